/- The walks of functions of the program: printed. -/
import Derived.Test.YtncamojfjhbanaaDoorG1
import Derived.Test.YtncamojfjhbanaaDoorF0
set_option maxRecDepth 100000
namespace Go.Proofs.YtncamojfjhbanaaDoor
open Go Go.RowKit Sk Sd
theorem mix (s : St) (w0 : World) (hL : Laid w0) :
    Gives Tryd.prog 57 #[Value.agg #[w32 (s.a), w32 (s.b), w32 (s.c), w32 (s.d), w32 (s.e), w32 (s.f), w32 (s.g), w32 (s.h)]] w0 (Pr.ex (St.val s.mix)) := by
  refine enter (N := 60) Tryd.func57 rfl rfl ?_
  intro a0 hN_0 hD_0 hA
  have s0_0 : get a0 0 = Value.agg #[w32 (s.a), w32 (s.b), w32 (s.c), w32 (s.d), w32 (s.e), w32 (s.f), w32 (s.g), w32 (s.h)] := hA 0 _ rfl
  clear hA
  have hE_0 : Ext w0 w0 := Ext.refl w0
  refine wp_seq ?_
  refine region_lex [1, 2] [(1, Pr.box' w0.heap.size 54 [w32 (s.a), w32 (s.b), w32 (s.c), w32 (s.d), w32 (s.e), w32 (s.f), w32 (s.g), w32 (s.h)]), (2, Pr.box' w0.heap.size 54 [w32 (0), w32 (0), w32 (0), w32 (0), w32 (0), w32 (0), w32 (0), w32 (0)])] 2 hN_0 hD_0 (by kernel_rfl) (by kernel_rfl) ?_ ?_
  · refine Asks.cons ?_ (Asks.cons ?_ (Asks.zero _))
    · refine Ask.fresh rfl rfl ?_
      intro aq wq hNq hO hR hT
      exact does_box (V := Value.agg #[w32 (s.a), w32 (s.b), w32 (s.c), w32 (s.d), w32 (s.e), w32 (s.f), w32 (s.g), w32 (s.h)]) ((hO 0 rfl).trans s0_0) (fun b w2 he hlo hb => ⟨he, ⟨b, rfl, Nat.le_trans hR.size' hlo, hb⟩, ⟨b, rfl, hlo, hb.lt⟩⟩)
    · refine Ask.fresh rfl rfl ?_
      intro aq wq hNq hO hR hT
      exact does_alloc zero_54 (fun b w2 he hlo hb => ⟨he, ⟨b, rfl, Nat.le_trans hR.size' hlo, hb⟩, ⟨b, rfl, hlo, hb.lt⟩⟩)
  intro a1 wd1 hN_1 hD_1 hO hR hA hU
  obtain ⟨t1, t2, _⟩ := hA
  have hE_1 := hE_0.trans hR
  obtain ⟨b1, s1_1, lo_b1, hbb1_1⟩ := t1
  have fr_b1 : w0.heap.size ≤ b1 := Nat.le_trans hE_0.size' lo_b1
  obtain ⟨b2, s2_1, lo_b2, hbb2_1⟩ := t2
  have fr_b2 : w0.heap.size ≤ b2 := Nat.le_trans hE_0.size' lo_b2
  obtain ⟨u0, ⟨u1, _⟩⟩ := hU
  have ne_b1_b2 : b1 ≠ b2 := fun e => u0 2 (by decide) (by rw [s1_1, s2_1, e])
  clear hE_0 hN_0 hD_0 s0_0
  refine tail_nil ?_
  refine wp_seq ?_
  refine wp_seq ?_
  refine region_lex [] [(8, Pr.ex (w32 (0)))] 1 hN_1 hD_1 (by kernel_rfl) (by kernel_rfl) ?_ ?_
  · refine Asks.cons ?_ (Asks.zero _)
    · refine Ask.plain rfl rfl ?_
      intro aq wq hNq hO hR hT
      exact does_move (V := w32 (0)) rfl ⟨Ext.refl _, rfl⟩
  intro a2 wd2 hN_2 hD_2 hO hR hA hU
  obtain ⟨t8, _⟩ := hA
  have hE_2 := hE_1.trans hR
  have s1_2 := (hO 1 rfl).trans s1_1
  have s2_2 := (hO 2 rfl).trans s2_1
  have hbb1_2 := hbb1_1.ext' hR
  have hbb2_2 := hbb2_1.ext' hR
  have s8_2 : get a2 8 = w32 (0) := t8
  clear hE_1 hN_1 hD_1 s1_1 s2_1 hbb1_1 hbb2_1
  refine tail_nil ?_
  refine wp_block ?_
  refine loop_g (fun mz az wz => ∃ k : Nat, mz = 8 - k ∧ (az.tmps.size = 60) ∧ (az.defers = []) ∧ (get az 1 = Value.pointer (some ⟨b1, 0, none⟩)) ∧ (get az 2 = Value.pointer (some ⟨b2, 0, none⟩)) ∧ (get az 8 = w32 (UInt32.ofNat k)) ∧ (Ext w0 wz) ∧ (Has wz b1 54 [w32 ((s.rounds k).a), w32 ((s.rounds k).b), w32 ((s.rounds k).c), w32 ((s.rounds k).d), w32 ((s.rounds k).e), w32 ((s.rounds k).f), w32 ((s.rounds k).g), w32 ((s.rounds k).h)]) ∧ (Has wz b2 54 [w32 (0), w32 (0), w32 (0), w32 (0), w32 (0), w32 (0), w32 (0), w32 (0)]) ∧ (k ≤ 8)) ?_ ?_
  · exact ⟨_, 0, rfl, hN_2, hD_2, s1_2, s2_2, s8_2, hE_2, hbb1_2, hbb2_2, by omega⟩
  rintro mz a3 wd3 ⟨k, rfl, hN_3, hD_3, s1_3, s2_3, s8_3, hE_3, hbb1_3, hbb2_3, hk⟩
  refine wp_seq ?_
  refine region_lex [] [(9, Pr.ex (Value.bool (decide (((UInt32.ofNat k : UInt32).toNat : Int) < ((8 : UInt32).toNat : Int)))))] 1 hN_3 hD_3 (by kernel_rfl) (by kernel_rfl) ?_ ?_
  · refine Asks.cons ?_ (Asks.zero _)
    · refine Ask.plain rfl rfl ?_
      intro aq wq hNq hO hR hT
      exact does_lss (a := ((UInt32.ofNat k : UInt32).toNat : Int)) (b := ((8 : UInt32).toNat : Int)) ((hO 8 rfl).trans s8_3) rfl ⟨Ext.refl _, rfl⟩
  intro a4 wd4 hN_4 hD_4 hO hR hA hU
  obtain ⟨t9, _⟩ := hA
  have hE_4 := hE_3.trans hR
  have s1_4 := (hO 1 rfl).trans s1_3
  have s2_4 := (hO 2 rfl).trans s2_3
  have s8_4 := (hO 8 rfl).trans s8_3
  have hbb1_4 := hbb1_3.ext' hR
  have hbb2_4 := hbb2_3.ext' hR
  have s9_4 : get a4 9 = Value.bool (decide (((UInt32.ofNat k : UInt32).toNat : Int) < ((8 : UInt32).toNat : Int))) := t9
  clear hE_3 hN_3 hD_3 s1_3 s2_3 s8_3 hbb1_3 hbb2_3
  refine tail_nil ?_
  refine wp_seq ?_
  refine wp_if (B := decide (((UInt32.ofNat k : UInt32).toNat : Int) < ((8 : UInt32).toNat : Int))) s9_4 (fun hc0 => ?_) (fun hc0 => ?_)
  · -- T 0
    have hc0 := of_decide_eq_true hc0
    have hk8 : k < 8 := (u32_lt8 hk).1 hc0
    refine wp_skip ?_
    refine wp_seq ?_
    refine wp_block ?_
    refine wp_seq ?_
    refine region_lex [] [(10, Pr.ex (w32 (UInt32.ofNat k))), (3, Pr.ex (w32 (UInt32.ofNat k)))] 2 hN_4 hD_4 (by kernel_rfl) (by kernel_rfl) ?_ ?_
    · refine Asks.cons ?_ (Asks.cons ?_ (Asks.zero _))
      · refine Ask.plain rfl rfl ?_
        intro aq wq hNq hO hR hT
        exact does_move (V := w32 (UInt32.ofNat k)) ((hO 8 rfl).trans s8_4) ⟨Ext.refl _, rfl⟩
      · refine Ask.plain rfl rfl ?_
        intro aq wq hNq hO hR hT
        exact does_assign (V := w32 (UInt32.ofNat k)) (hT 10 rfl rfl) ⟨Ext.refl _, rfl⟩
    intro a5 wd5 hN_5 hD_5 hO hR hA hU
    obtain ⟨_, t3, _⟩ := hA
    have hE_5 := hE_4.trans hR
    have s1_5 := (hO 1 rfl).trans s1_4
    have s2_5 := (hO 2 rfl).trans s2_4
    have s8_5 := (hO 8 rfl).trans s8_4
    have hbb1_5 := hbb1_4.ext' hR
    have hbb2_5 := hbb2_4.ext' hR
    have s3_5 : get a5 3 = w32 (UInt32.ofNat k) := t3
    clear hE_4 hN_4 hD_4 s1_4 s2_4 s8_4 s9_4 hbb1_4 hbb2_4
    refine tail_nil ?_
    refine wp_seq ?_
    refine region_lex [] [(11, Pr.ex (Value.pointer (some ⟨b1, 0, none⟩))), (12, Pr.ex (w32 ((s.rounds k).a))), (13, Pr.ex (w32 (UInt32.ofNat k))), (14, Pr.ex (w32 ((UInt32.ofNat k : UInt32) + (1 : UInt32)))), (15, Pr.ex (w32 ((2654435769 : UInt32) * ((UInt32.ofNat k : UInt32) + (1 : UInt32) : UInt32)))), (16, Pr.ex (w32 (((s.rounds k).a : UInt32) + ((2654435769 : UInt32) * ((UInt32.ofNat k : UInt32) + (1 : UInt32) : UInt32) : UInt32)))), (17, Pr.ex (Value.pointer (some ⟨b1, 0, none⟩)))] 7 hN_5 hD_5 (by kernel_rfl) (by kernel_rfl) ?_ ?_
    · refine Asks.cons ?_ (Asks.cons ?_ (Asks.cons ?_ (Asks.cons ?_ (Asks.cons ?_ (Asks.cons ?_ (Asks.cons ?_ (Asks.zero _)))))))
      · refine Ask.plain rfl rfl ?_
        intro aq wq hNq hO hR hT
        exact does_indexArr (k := .i64) (i := 0) (o' := 0) arr_54 ((hO 1 rfl).trans s1_5) rfl (by decide) (by decide) rfl ⟨Ext.refl _, rfl⟩
      · refine Ask.plain rfl rfl ?_
        intro aq wq hNq hO hR hT
        exact does_loadD1 (o := 0) (V := w32 ((s.rounds k).a)) (hT 11 rfl rfl) (hbb1_5.ext' hR) rfl one_22 ⟨Ext.refl _, rfl⟩
      · refine Ask.plain rfl rfl ?_
        intro aq wq hNq hO hR hT
        exact does_move (V := w32 (UInt32.ofNat k)) ((hO 3 rfl).trans s3_5) ⟨Ext.refl _, rfl⟩
      · refine Ask.plain rfl rfl ?_
        intro aq wq hNq hO hR hT
        exact does_add32 (a := (UInt32.ofNat k : UInt32)) (b := (1 : UInt32)) (hT 13 rfl rfl) rfl ⟨Ext.refl _, rfl⟩
      · refine Ask.plain rfl rfl ?_
        intro aq wq hNq hO hR hT
        exact does_mul32 (a := (2654435769 : UInt32)) (b := ((UInt32.ofNat k : UInt32) + (1 : UInt32) : UInt32)) rfl (hT 14 rfl rfl) ⟨Ext.refl _, rfl⟩
      · refine Ask.plain rfl rfl ?_
        intro aq wq hNq hO hR hT
        exact does_add32 (a := ((s.rounds k).a : UInt32)) (b := ((2654435769 : UInt32) * ((UInt32.ofNat k : UInt32) + (1 : UInt32) : UInt32) : UInt32)) (hT 12 rfl rfl) (hT 15 rfl rfl) ⟨Ext.refl _, rfl⟩
      · refine Ask.plain rfl rfl ?_
        intro aq wq hNq hO hR hT
        exact does_indexArr (k := .i64) (i := 0) (o' := 0) arr_54 ((hO 1 rfl).trans s1_5) rfl (by decide) (by decide) rfl ⟨Ext.refl _, rfl⟩
    intro a6 wd6 hN_6 hD_6 hO hR hA hU
    obtain ⟨_, _, _, _, _, t16, t17, _⟩ := hA
    have hE_6 := hE_5.trans hR
    have s1_6 := (hO 1 rfl).trans s1_5
    have s2_6 := (hO 2 rfl).trans s2_5
    have s8_6 := (hO 8 rfl).trans s8_5
    have hbb1_6 := hbb1_5.ext' hR
    have hbb2_6 := hbb2_5.ext' hR
    have s16_6 : get a6 16 = w32 (((s.rounds k).a : UInt32) + ((2654435769 : UInt32) * ((UInt32.ofNat k : UInt32) + (1 : UInt32) : UInt32) : UInt32)) := t16
    have s17_6 : get a6 17 = Value.pointer (some ⟨b1, 0, none⟩) := t17
    clear hE_5 hN_5 hD_5 s1_5 s2_5 s3_5 s8_5 hbb1_5 hbb2_5
    refine tail_none rfl rfl (does_storeD (o := 0) (n := 1) (cs' := [w32 (((s.rounds k).a : UInt32) + ((2654435769 : UInt32) * ((UInt32.ofNat k : UInt32) + (1 : UInt32) : UInt32) : UInt32)), w32 ((s.rounds k).b), w32 ((s.rounds k).c), w32 ((s.rounds k).d), w32 ((s.rounds k).e), w32 ((s.rounds k).f), w32 ((s.rounds k).g), w32 ((s.rounds k).h)]) (V := w32 (((s.rounds k).a : UInt32) + ((2654435769 : UInt32) * ((UInt32.ofNat k : UInt32) + (1 : UInt32) : UInt32) : UInt32))) s17_6 s16_6 hbb1_6 (Nat.le_of_ble_eq_true rfl) rfl siz_22 rfl rfl (fun wd7 hX hz hbb1_7 => ?_))
    have hE_7 := hE_6.since hX (fun k e => e ▸ fr_b1)
    have hbb2_7 := hbb2_6.ext hX ne_b1_b2.symm
    clear hX hz hE_6 hbb1_6 hbb2_6
    refine tail_nil ?_
    refine wp_seq ?_
    refine wp_seq ?_
    refine region_lex [] [(18, Pr.ex (Value.agg #[i64 ((7 : Nat) : Int), i64 ((9 : Nat) : Int), i64 ((13 : Nat) : Int), i64 ((18 : Nat) : Int)])), (19, Pr.ex (i64 ((0 : Nat) : Int)))] 2 hN_6 hD_6 (by kernel_rfl) (by kernel_rfl) ?_ ?_
    · refine Asks.cons ?_ (Asks.cons ?_ (Asks.zero _))
      · refine Ask.plain rfl rfl ?_
        intro aq wq hNq hO hR hT
        exact does_loadP (lo := 0) (hi := 0) (cs := [i64 ((7 : Nat) : Int), i64 ((9 : Nat) : Int), i64 ((13 : Nat) : Int), i64 ((18 : Nat) : Int)]) ⟨0, 0, rfl, Nat.zero_le _, .inl rfl, (hL.ext (hE_7.trans hR))⟩ row_91 rfl ⟨Ext.refl _, rfl⟩
      · refine Ask.plain rfl rfl ?_
        intro aq wq hNq hO hR hT
        exact does_move (V := i64 ((0 : Nat) : Int)) rfl ⟨Ext.refl _, rfl⟩
    intro a8 wd8 hN_8 hD_8 hO hR hA hU
    obtain ⟨t18, t19, _⟩ := hA
    have hE_8 := hE_7.trans hR
    have s1_8 := (hO 1 rfl).trans s1_6
    have s2_8 := (hO 2 rfl).trans s2_6
    have s8_8 := (hO 8 rfl).trans s8_6
    have hbb1_8 := hbb1_7.ext' hR
    have hbb2_8 := hbb2_7.ext' hR
    have s18_8 : get a8 18 = Value.agg #[i64 ((7 : Nat) : Int), i64 ((9 : Nat) : Int), i64 ((13 : Nat) : Int), i64 ((18 : Nat) : Int)] := t18
    have s19_8 : get a8 19 = i64 ((0 : Nat) : Int) := t19
    clear hE_7 hN_6 hD_6 s1_6 s2_6 s8_6 s16_6 s17_6 hbb1_7 hbb2_7
    refine tail_nil ?_
    refine wp_block ?_
    refine loop_rounds 5 ?_
    refine round_step ?_
    refine wp_seq ?_
    refine region_lex [] [(20, Pr.ex (Value.bool (true)))] 1 hN_8 hD_8 (by kernel_rfl) (by kernel_rfl) ?_ ?_
    · refine Asks.cons ?_ (Asks.zero _)
      · refine Ask.plain rfl rfl ?_
        intro aq wq hNq hO hR hT
        exact does_lss (a := ((0 : Nat) : Int)) (b := ((4 : Nat) : Int)) ((hO 19 rfl).trans s19_8) rfl ⟨Ext.refl _, rfl⟩
    intro a9 wd9 hN_9 hD_9 hO hR hA hU
    obtain ⟨t20, _⟩ := hA
    have hE_9 := hE_8.trans hR
    have s1_9 := (hO 1 rfl).trans s1_8
    have s2_9 := (hO 2 rfl).trans s2_8
    have s8_9 := (hO 8 rfl).trans s8_8
    have s18_9 := (hO 18 rfl).trans s18_8
    have s19_9 := (hO 19 rfl).trans s19_8
    have hbb1_9 := hbb1_8.ext' hR
    have hbb2_9 := hbb2_8.ext' hR
    have s20_9 : get a9 20 = Value.bool (true) := t20
    clear hE_8 hN_8 hD_8 s1_8 s2_8 s8_8 s18_8 s19_8 hbb1_8 hbb2_8
    refine tail_nil ?_
    refine wp_seq ?_
    refine wp_ifT s20_9 ?_
    refine wp_skip ?_
    refine wp_seq ?_
    refine wp_block ?_
    refine wp_seq ?_
    refine region_lex [] [(21, Pr.ex (i64 ((0 : Nat) : Int))), (22, Pr.ex (i64 ((7 : Nat) : Int))), (4, Pr.ex (i64 ((0 : Nat) : Int))), (5, Pr.ex (i64 ((7 : Nat) : Int)))] 4 hN_9 hD_9 (by kernel_rfl) (by kernel_rfl) ?_ ?_
    · refine Asks.cons ?_ (Asks.cons ?_ (Asks.cons ?_ (Asks.cons ?_ (Asks.zero _))))
      · refine Ask.plain rfl rfl ?_
        intro aq wq hNq hO hR hT
        exact does_move (V := i64 ((0 : Nat) : Int)) ((hO 19 rfl).trans s19_9) ⟨Ext.refl _, rfl⟩
      · refine Ask.plain rfl rfl ?_
        intro aq wq hNq hO hR hT
        exact does_indexArrV (cs := [i64 ((7 : Nat) : Int), i64 ((9 : Nat) : Int), i64 ((13 : Nat) : Int), i64 ((18 : Nat) : Int)]) (k := .i64) (i := 0) (V := i64 ((7 : Nat) : Int)) arr_91 one_3 ((hO 18 rfl).trans s18_9) ((hO 19 rfl).trans s19_9) (by decide) (by decide) rfl ⟨Ext.refl _, rfl⟩
      · refine Ask.plain rfl rfl ?_
        intro aq wq hNq hO hR hT
        exact does_assign (V := i64 ((0 : Nat) : Int)) (hT 21 rfl rfl) ⟨Ext.refl _, rfl⟩
      · refine Ask.plain rfl rfl ?_
        intro aq wq hNq hO hR hT
        exact does_assign (V := i64 ((7 : Nat) : Int)) (hT 22 rfl rfl) ⟨Ext.refl _, rfl⟩
    intro a10 wd10 hN_10 hD_10 hO hR hA hU
    obtain ⟨_, _, t4, t5, _⟩ := hA
    have hE_10 := hE_9.trans hR
    have s1_10 := (hO 1 rfl).trans s1_9
    have s2_10 := (hO 2 rfl).trans s2_9
    have s8_10 := (hO 8 rfl).trans s8_9
    have s18_10 := (hO 18 rfl).trans s18_9
    have s19_10 := (hO 19 rfl).trans s19_9
    have hbb1_10 := hbb1_9.ext' hR
    have hbb2_10 := hbb2_9.ext' hR
    have s4_10 : get a10 4 = i64 ((0 : Nat) : Int) := t4
    have s5_10 : get a10 5 = i64 ((7 : Nat) : Int) := t5
    clear hE_9 hN_9 hD_9 s1_9 s2_9 s8_9 s18_9 s19_9 s20_9 hbb1_9 hbb2_9
    refine tail_nil ?_
    refine wp_seq ?_
    refine region_any [] [(23, Pr.ex (i64 ((0 : Nat) : Int))), (24, Pr.ex (Value.pointer (some ⟨b1, 0, none⟩))), (25, Pr.ex (w32 (((s.rounds k).a : UInt32) + ((2654435769 : UInt32) * ((UInt32.ofNat k : UInt32) + (1 : UInt32) : UInt32) : UInt32)))), (26, Pr.ex (i64 ((0 : Nat) : Int))), (27, Pr.ex (i64 ((4 : Nat) : Int))), (28, Pr.ex (Value.pointer (some ⟨b1, 4, none⟩))), (29, Pr.ex (w32 ((s.rounds k).e))), (30, Pr.ex (w32 ((((s.rounds k).a : UInt32) + ((2654435769 : UInt32) * ((UInt32.ofNat k : UInt32) + (1 : UInt32) : UInt32) : UInt32) : UInt32) + ((s.rounds k).e : UInt32)))), (31, Pr.ex (Value.pointer (some ⟨b1, 0, none⟩)))] 9 mixed hN_10 hD_10 (by kernel_rfl) (by kernel_rfl) (by kernel_rfl) ?_ ?_
    · refine Asks.cons ?_ (Asks.cons ?_ (Asks.cons ?_ (Asks.cons ?_ (Asks.cons ?_ (Asks.cons ?_ (Asks.cons ?_ (Asks.cons ?_ (Asks.cons ?_ (Asks.zero _)))))))))
      · refine Ask.plain rfl rfl ?_
        intro aq wq hNq hO hR hT
        replace hR := (Ext.drew _).trans hR
        exact does_move (V := i64 ((0 : Nat) : Int)) ((hO 4 rfl).trans s4_10) ⟨Ext.refl _, rfl⟩
      · refine Ask.plain rfl rfl ?_
        intro aq wq hNq hO hR hT
        replace hR := (Ext.drew _).trans hR
        exact does_indexArr (k := .i64) (i := 0) (o' := 0) arr_54 ((hO 1 rfl).trans s1_10) (hT 23 rfl rfl) (by decide) (by decide) rfl ⟨Ext.refl _, rfl⟩
      · refine Ask.plain rfl rfl ?_
        intro aq wq hNq hO hR hT
        replace hR := (Ext.drew _).trans hR
        exact does_loadD1 (o := 0) (V := w32 (((s.rounds k).a : UInt32) + ((2654435769 : UInt32) * ((UInt32.ofNat k : UInt32) + (1 : UInt32) : UInt32) : UInt32))) (hT 24 rfl rfl) (hbb1_10.ext' hR) rfl one_22 ⟨Ext.refl _, rfl⟩
      · refine Ask.plain rfl rfl ?_
        intro aq wq hNq hO hR hT
        replace hR := (Ext.drew _).trans hR
        exact does_move (V := i64 ((0 : Nat) : Int)) ((hO 4 rfl).trans s4_10) ⟨Ext.refl _, rfl⟩
      · refine Ask.plain rfl rfl ?_
        intro aq wq hNq hO hR hT
        replace hR := (Ext.drew _).trans hR
        exact does_add (a := ((0 : Nat) : Int)) (b := ((4 : Nat) : Int)) (r := ((4 : Nat) : Int)) (hT 26 rfl rfl) rfl (by decide) (by decide) (by decide) ⟨Ext.refl _, rfl⟩
      · refine Ask.plain rfl rfl ?_
        intro aq wq hNq hO hR hT
        replace hR := (Ext.drew _).trans hR
        exact does_indexArr (k := .i64) (i := 4) (o' := 4) arr_54 ((hO 1 rfl).trans s1_10) (hT 27 rfl rfl) (by decide) (by decide) rfl ⟨Ext.refl _, rfl⟩
      · refine Ask.plain rfl rfl ?_
        intro aq wq hNq hO hR hT
        replace hR := (Ext.drew _).trans hR
        exact does_loadD1 (o := 4) (V := w32 ((s.rounds k).e)) (hT 28 rfl rfl) (hbb1_10.ext' hR) rfl one_22 ⟨Ext.refl _, rfl⟩
      · refine Ask.plain rfl rfl ?_
        intro aq wq hNq hO hR hT
        replace hR := (Ext.drew _).trans hR
        exact does_add32 (a := (((s.rounds k).a : UInt32) + ((2654435769 : UInt32) * ((UInt32.ofNat k : UInt32) + (1 : UInt32) : UInt32) : UInt32) : UInt32)) (b := ((s.rounds k).e : UInt32)) (hT 25 rfl rfl) (hT 29 rfl rfl) ⟨Ext.refl _, rfl⟩
      · refine Ask.plain rfl rfl ?_
        intro aq wq hNq hO hR hT
        replace hR := (Ext.drew _).trans hR
        exact does_indexArr (k := .i64) (i := 0) (o' := 0) arr_54 ((hO 1 rfl).trans s1_10) (hT 23 rfl rfl) (by decide) (by decide) rfl ⟨Ext.refl _, rfl⟩
    intro a11 wd11 hN_11 hD_11 hO hR hA hU
    obtain ⟨_, _, _, _, _, _, _, t30, t31, _⟩ := hA
    have hE_11 := hE_10.trans hR
    have s1_11 := (hO 1 rfl).trans s1_10
    have s2_11 := (hO 2 rfl).trans s2_10
    have s4_11 := (hO 4 rfl).trans s4_10
    have s5_11 := (hO 5 rfl).trans s5_10
    have s8_11 := (hO 8 rfl).trans s8_10
    have s18_11 := (hO 18 rfl).trans s18_10
    have s19_11 := (hO 19 rfl).trans s19_10
    have hbb1_11 := hbb1_10.ext' hR
    have hbb2_11 := hbb2_10.ext' hR
    have s30_11 : get a11 30 = w32 ((((s.rounds k).a : UInt32) + ((2654435769 : UInt32) * ((UInt32.ofNat k : UInt32) + (1 : UInt32) : UInt32) : UInt32) : UInt32) + ((s.rounds k).e : UInt32)) := t30
    have s31_11 : get a11 31 = Value.pointer (some ⟨b1, 0, none⟩) := t31
    clear hE_10 hN_10 hD_10 s1_10 s2_10 s4_10 s5_10 s8_10 s18_10 s19_10 hbb1_10 hbb2_10
    refine tail_none rfl rfl (does_storeD (o := 0) (n := 1) (cs' := [w32 ((((s.rounds k).a : UInt32) + ((2654435769 : UInt32) * ((UInt32.ofNat k : UInt32) + (1 : UInt32) : UInt32) : UInt32) : UInt32) + ((s.rounds k).e : UInt32)), w32 ((s.rounds k).b), w32 ((s.rounds k).c), w32 ((s.rounds k).d), w32 ((s.rounds k).e), w32 ((s.rounds k).f), w32 ((s.rounds k).g), w32 ((s.rounds k).h)]) (V := w32 ((((s.rounds k).a : UInt32) + ((2654435769 : UInt32) * ((UInt32.ofNat k : UInt32) + (1 : UInt32) : UInt32) : UInt32) : UInt32) + ((s.rounds k).e : UInt32))) s31_11 s30_11 hbb1_11 (Nat.le_of_ble_eq_true rfl) rfl siz_22 rfl rfl (fun wd12 hX hz hbb1_12 => ?_))
    have hE_12 := hE_11.since hX (fun k e => e ▸ fr_b1)
    have hbb2_12 := hbb2_11.ext hX ne_b1_b2.symm
    clear hX hz hE_11 hbb1_11 hbb2_11
    refine tail_nil ?_
    refine region_any [] [(32, Pr.ex (i64 ((0 : Nat) : Int))), (33, Pr.ex (i64 ((4 : Nat) : Int))), (34, Pr.ex (i64 ((0 : Nat) : Int))), (35, Pr.ex (i64 ((4 : Nat) : Int))), (36, Pr.ex (Value.pointer (some ⟨b1, 4, none⟩))), (37, Pr.ex (w32 ((s.rounds k).e))), (38, Pr.ex (i64 ((0 : Nat) : Int))), (39, Pr.ex (Value.pointer (some ⟨b1, 0, none⟩))), (40, Pr.ex (w32 ((((s.rounds k).a : UInt32) + ((2654435769 : UInt32) * ((UInt32.ofNat k : UInt32) + (1 : UInt32) : UInt32) : UInt32) : UInt32) + ((s.rounds k).e : UInt32)))), (41, Pr.ex (w32 (((s.rounds k).e : UInt32) ^^^ ((((s.rounds k).a : UInt32) + ((2654435769 : UInt32) * ((UInt32.ofNat k : UInt32) + (1 : UInt32) : UInt32) : UInt32) : UInt32) + ((s.rounds k).e : UInt32) : UInt32)))), (42, Pr.ex (i64 ((7 : Nat) : Int))), (43, Pr.ex (w32 (rot (((s.rounds k).e : UInt32) ^^^ ((((s.rounds k).a : UInt32) + ((2654435769 : UInt32) * ((UInt32.ofNat k : UInt32) + (1 : UInt32) : UInt32) : UInt32) : UInt32) + ((s.rounds k).e : UInt32) : UInt32)) 7))), (44, Pr.ex (Value.pointer (some ⟨b1, 4, none⟩)))] 13 mixed hN_11 hD_11 (by kernel_rfl) (by kernel_rfl) (by kernel_rfl) ?_ ?_
    · refine Asks.cons ?_ (Asks.cons ?_ (Asks.cons ?_ (Asks.cons ?_ (Asks.cons ?_ (Asks.cons ?_ (Asks.cons ?_ (Asks.cons ?_ (Asks.cons ?_ (Asks.cons ?_ (Asks.cons ?_ (Asks.cons ?_ (Asks.cons ?_ (Asks.zero _)))))))))))))
      · refine Ask.plain rfl rfl ?_
        intro aq wq hNq hO hR hT
        replace hR := (Ext.drew _).trans hR
        exact does_move (V := i64 ((0 : Nat) : Int)) ((hO 4 rfl).trans s4_11) ⟨Ext.refl _, rfl⟩
      · refine Ask.plain rfl rfl ?_
        intro aq wq hNq hO hR hT
        replace hR := (Ext.drew _).trans hR
        exact does_add (a := ((0 : Nat) : Int)) (b := ((4 : Nat) : Int)) (r := ((4 : Nat) : Int)) (hT 32 rfl rfl) rfl (by decide) (by decide) (by decide) ⟨Ext.refl _, rfl⟩
      · refine Ask.plain rfl rfl ?_
        intro aq wq hNq hO hR hT
        replace hR := (Ext.drew _).trans hR
        exact does_move (V := i64 ((0 : Nat) : Int)) ((hO 4 rfl).trans s4_11) ⟨Ext.refl _, rfl⟩
      · refine Ask.plain rfl rfl ?_
        intro aq wq hNq hO hR hT
        replace hR := (Ext.drew _).trans hR
        exact does_add (a := ((0 : Nat) : Int)) (b := ((4 : Nat) : Int)) (r := ((4 : Nat) : Int)) (hT 34 rfl rfl) rfl (by decide) (by decide) (by decide) ⟨Ext.refl _, rfl⟩
      · refine Ask.plain rfl rfl ?_
        intro aq wq hNq hO hR hT
        replace hR := (Ext.drew _).trans hR
        exact does_indexArr (k := .i64) (i := 4) (o' := 4) arr_54 ((hO 1 rfl).trans s1_11) (hT 35 rfl rfl) (by decide) (by decide) rfl ⟨Ext.refl _, rfl⟩
      · refine Ask.plain rfl rfl ?_
        intro aq wq hNq hO hR hT
        replace hR := (Ext.drew _).trans hR
        exact does_loadD1 (o := 4) (V := w32 ((s.rounds k).e)) (hT 36 rfl rfl) (hbb1_12.ext' hR) rfl one_22 ⟨Ext.refl _, rfl⟩
      · refine Ask.plain rfl rfl ?_
        intro aq wq hNq hO hR hT
        replace hR := (Ext.drew _).trans hR
        exact does_move (V := i64 ((0 : Nat) : Int)) ((hO 4 rfl).trans s4_11) ⟨Ext.refl _, rfl⟩
      · refine Ask.plain rfl rfl ?_
        intro aq wq hNq hO hR hT
        replace hR := (Ext.drew _).trans hR
        exact does_indexArr (k := .i64) (i := 0) (o' := 0) arr_54 ((hO 1 rfl).trans s1_11) (hT 38 rfl rfl) (by decide) (by decide) rfl ⟨Ext.refl _, rfl⟩
      · refine Ask.plain rfl rfl ?_
        intro aq wq hNq hO hR hT
        replace hR := (Ext.drew _).trans hR
        exact does_loadD1 (o := 0) (V := w32 ((((s.rounds k).a : UInt32) + ((2654435769 : UInt32) * ((UInt32.ofNat k : UInt32) + (1 : UInt32) : UInt32) : UInt32) : UInt32) + ((s.rounds k).e : UInt32))) (hT 39 rfl rfl) (hbb1_12.ext' hR) rfl one_22 ⟨Ext.refl _, rfl⟩
      · refine Ask.plain rfl rfl ?_
        intro aq wq hNq hO hR hT
        replace hR := (Ext.drew _).trans hR
        exact does_xor32 (a := ((s.rounds k).e : UInt32)) (b := ((((s.rounds k).a : UInt32) + ((2654435769 : UInt32) * ((UInt32.ofNat k : UInt32) + (1 : UInt32) : UInt32) : UInt32) : UInt32) + ((s.rounds k).e : UInt32) : UInt32)) (hT 37 rfl rfl) (hT 40 rfl rfl) ⟨Ext.refl _, rfl⟩
      · refine Ask.plain rfl rfl ?_
        intro aq wq hNq hO hR hT
        replace hR := (Ext.drew _).trans hR
        exact does_move (V := i64 ((7 : Nat) : Int)) ((hO 5 rfl).trans s5_11) ⟨Ext.refl _, rfl⟩
      · refine Ask.plain rfl rfl ?_
        intro aq wq hNq hO hR hT
        replace hR := (Ext.drew _).trans hR
        exact does_ret (vs := #[w32 (((s.rounds k).e : UInt32) ^^^ ((((s.rounds k).a : UInt32) + ((2654435769 : UInt32) * ((UInt32.ofNat k : UInt32) + (1 : UInt32) : UInt32) : UInt32) : UInt32) + ((s.rounds k).e : UInt32) : UInt32)), i64 ((7 : Nat) : Int)]) call_65 (args2 (hT 41 rfl rfl) (hT 42 rfl rfl)) rfl ((turn (((s.rounds k).e : UInt32) ^^^ ((((s.rounds k).a : UInt32) + ((2654435769 : UInt32) * ((UInt32.ofNat k : UInt32) + (1 : UInt32) : UInt32) : UInt32) : UInt32) + ((s.rounds k).e : UInt32) : UInt32)) (7) wq (by decide)).mono fun v w2 h => ⟨h.2, h.1⟩)
      · refine Ask.plain rfl rfl ?_
        intro aq wq hNq hO hR hT
        replace hR := (Ext.drew _).trans hR
        exact does_indexArr (k := .i64) (i := 4) (o' := 4) arr_54 ((hO 1 rfl).trans s1_11) (hT 33 rfl rfl) (by decide) (by decide) rfl ⟨Ext.refl _, rfl⟩
    intro a13 wd13 hN_13 hD_13 hO hR hA hU
    obtain ⟨_, _, _, _, _, _, _, _, _, _, _, t43, t44, _⟩ := hA
    have hE_13 := hE_12.trans hR
    have s1_13 := (hO 1 rfl).trans s1_11
    have s2_13 := (hO 2 rfl).trans s2_11
    have s8_13 := (hO 8 rfl).trans s8_11
    have s18_13 := (hO 18 rfl).trans s18_11
    have s19_13 := (hO 19 rfl).trans s19_11
    have hbb1_13 := hbb1_12.ext' hR
    have hbb2_13 := hbb2_12.ext' hR
    have s43_13 : get a13 43 = w32 (rot (((s.rounds k).e : UInt32) ^^^ ((((s.rounds k).a : UInt32) + ((2654435769 : UInt32) * ((UInt32.ofNat k : UInt32) + (1 : UInt32) : UInt32) : UInt32) : UInt32) + ((s.rounds k).e : UInt32) : UInt32)) 7) := t43
    have s44_13 : get a13 44 = Value.pointer (some ⟨b1, 4, none⟩) := t44
    clear hE_12 hN_11 hD_11 s1_11 s2_11 s4_11 s5_11 s8_11 s18_11 s19_11 s30_11 s31_11 hbb1_12 hbb2_12
    refine tail_none rfl rfl (does_storeD (o := 4) (n := 1) (cs' := [w32 ((((s.rounds k).a : UInt32) + ((2654435769 : UInt32) * ((UInt32.ofNat k : UInt32) + (1 : UInt32) : UInt32) : UInt32) : UInt32) + ((s.rounds k).e : UInt32)), w32 ((s.rounds k).b), w32 ((s.rounds k).c), w32 ((s.rounds k).d), w32 (rot (((s.rounds k).e : UInt32) ^^^ ((((s.rounds k).a : UInt32) + ((2654435769 : UInt32) * ((UInt32.ofNat k : UInt32) + (1 : UInt32) : UInt32) : UInt32) : UInt32) + ((s.rounds k).e : UInt32) : UInt32)) 7), w32 ((s.rounds k).f), w32 ((s.rounds k).g), w32 ((s.rounds k).h)]) (V := w32 (rot (((s.rounds k).e : UInt32) ^^^ ((((s.rounds k).a : UInt32) + ((2654435769 : UInt32) * ((UInt32.ofNat k : UInt32) + (1 : UInt32) : UInt32) : UInt32) : UInt32) + ((s.rounds k).e : UInt32) : UInt32)) 7)) s44_13 s43_13 hbb1_13 (Nat.le_of_ble_eq_true rfl) rfl siz_22 rfl rfl (fun wd14 hX hz hbb1_14 => ?_))
    have hE_14 := hE_13.since hX (fun k e => e ▸ fr_b1)
    have hbb2_14 := hbb2_13.ext hX ne_b1_b2.symm
    clear hX hz hE_13 hbb1_13 hbb2_13
    refine tail_nil ?_
    refine region_lex [] [(45, Pr.ex (i64 ((1 : Nat) : Int)))] 1 hN_13 hD_13 (by kernel_rfl) (by kernel_rfl) ?_ ?_
    · refine Asks.cons ?_ (Asks.zero _)
      · refine Ask.plain rfl rfl ?_
        intro aq wq hNq hO hR hT
        exact does_add (a := ((0 : Nat) : Int)) (b := ((1 : Nat) : Int)) (r := ((1 : Nat) : Int)) ((hO 19 rfl).trans s19_13) rfl (by decide) (by decide) (by decide) ⟨Ext.refl _, rfl⟩
    intro a15 wd15 hN_15 hD_15 hO hR hA hU
    obtain ⟨t45, _⟩ := hA
    have hE_15 := hE_14.trans hR
    have s1_15 := (hO 1 rfl).trans s1_13
    have s2_15 := (hO 2 rfl).trans s2_13
    have s8_15 := (hO 8 rfl).trans s8_13
    have s18_15 := (hO 18 rfl).trans s18_13
    have s19_15 := (hO 19 rfl).trans s19_13
    have hbb1_15 := hbb1_14.ext' hR
    have hbb2_15 := hbb2_14.ext' hR
    have s45_15 : get a15 45 = i64 ((1 : Nat) : Int) := t45
    clear hE_14 hN_13 hD_13 s1_13 s2_13 s8_13 s18_13 s19_13 s43_13 s44_13 hbb1_14 hbb2_14
    refine tail_put rfl rfl hN_15 hD_15 (by decide) (does_move (V := i64 ((1 : Nat) : Int)) s45_15 (fun a16 hN_16 hD_16 hv hO => ?_))
    have s19_16 := hv
    have s1_16 := (hO 1 rfl).trans s1_15
    have s2_16 := (hO 2 rfl).trans s2_15
    have s8_16 := (hO 8 rfl).trans s8_15
    have s18_16 := (hO 18 rfl).trans s18_15
    clear hO hv hN_15 hD_15 s1_15 s2_15 s8_15 s18_15 s45_15 s19_15
    refine tail_nil ?_
    refine round_step ?_
    refine wp_seq ?_
    refine region_lex [] [(20, Pr.ex (Value.bool (true)))] 1 hN_16 hD_16 (by kernel_rfl) (by kernel_rfl) ?_ ?_
    · refine Asks.cons ?_ (Asks.zero _)
      · refine Ask.plain rfl rfl ?_
        intro aq wq hNq hO hR hT
        exact does_lss (a := ((1 : Nat) : Int)) (b := ((4 : Nat) : Int)) ((hO 19 rfl).trans s19_16) rfl ⟨Ext.refl _, rfl⟩
    intro a17 wd17 hN_17 hD_17 hO hR hA hU
    obtain ⟨t20, _⟩ := hA
    have hE_17 := hE_15.trans hR
    have s1_17 := (hO 1 rfl).trans s1_16
    have s2_17 := (hO 2 rfl).trans s2_16
    have s8_17 := (hO 8 rfl).trans s8_16
    have s18_17 := (hO 18 rfl).trans s18_16
    have s19_17 := (hO 19 rfl).trans s19_16
    have hbb1_17 := hbb1_15.ext' hR
    have hbb2_17 := hbb2_15.ext' hR
    have s20_17 : get a17 20 = Value.bool (true) := t20
    clear hE_15 hN_16 hD_16 s1_16 s2_16 s8_16 s18_16 s19_16 hbb1_15 hbb2_15
    refine tail_nil ?_
    refine wp_seq ?_
    refine wp_ifT s20_17 ?_
    refine wp_skip ?_
    refine wp_seq ?_
    refine wp_block ?_
    refine wp_seq ?_
    refine region_lex [] [(21, Pr.ex (i64 ((1 : Nat) : Int))), (22, Pr.ex (i64 ((9 : Nat) : Int))), (4, Pr.ex (i64 ((1 : Nat) : Int))), (5, Pr.ex (i64 ((9 : Nat) : Int)))] 4 hN_17 hD_17 (by kernel_rfl) (by kernel_rfl) ?_ ?_
    · refine Asks.cons ?_ (Asks.cons ?_ (Asks.cons ?_ (Asks.cons ?_ (Asks.zero _))))
      · refine Ask.plain rfl rfl ?_
        intro aq wq hNq hO hR hT
        exact does_move (V := i64 ((1 : Nat) : Int)) ((hO 19 rfl).trans s19_17) ⟨Ext.refl _, rfl⟩
      · refine Ask.plain rfl rfl ?_
        intro aq wq hNq hO hR hT
        exact does_indexArrV (cs := [i64 ((7 : Nat) : Int), i64 ((9 : Nat) : Int), i64 ((13 : Nat) : Int), i64 ((18 : Nat) : Int)]) (k := .i64) (i := 1) (V := i64 ((9 : Nat) : Int)) arr_91 one_3 ((hO 18 rfl).trans s18_17) ((hO 19 rfl).trans s19_17) (by decide) (by decide) rfl ⟨Ext.refl _, rfl⟩
      · refine Ask.plain rfl rfl ?_
        intro aq wq hNq hO hR hT
        exact does_assign (V := i64 ((1 : Nat) : Int)) (hT 21 rfl rfl) ⟨Ext.refl _, rfl⟩
      · refine Ask.plain rfl rfl ?_
        intro aq wq hNq hO hR hT
        exact does_assign (V := i64 ((9 : Nat) : Int)) (hT 22 rfl rfl) ⟨Ext.refl _, rfl⟩
    intro a18 wd18 hN_18 hD_18 hO hR hA hU
    obtain ⟨_, _, t4, t5, _⟩ := hA
    have hE_18 := hE_17.trans hR
    have s1_18 := (hO 1 rfl).trans s1_17
    have s2_18 := (hO 2 rfl).trans s2_17
    have s8_18 := (hO 8 rfl).trans s8_17
    have s18_18 := (hO 18 rfl).trans s18_17
    have s19_18 := (hO 19 rfl).trans s19_17
    have hbb1_18 := hbb1_17.ext' hR
    have hbb2_18 := hbb2_17.ext' hR
    have s4_18 : get a18 4 = i64 ((1 : Nat) : Int) := t4
    have s5_18 : get a18 5 = i64 ((9 : Nat) : Int) := t5
    clear hE_17 hN_17 hD_17 s1_17 s2_17 s8_17 s18_17 s19_17 s20_17 hbb1_17 hbb2_17
    refine tail_nil ?_
    refine wp_seq ?_
    refine region_any [] [(23, Pr.ex (i64 ((1 : Nat) : Int))), (24, Pr.ex (Value.pointer (some ⟨b1, 1, none⟩))), (25, Pr.ex (w32 ((s.rounds k).b))), (26, Pr.ex (i64 ((1 : Nat) : Int))), (27, Pr.ex (i64 ((5 : Nat) : Int))), (28, Pr.ex (Value.pointer (some ⟨b1, 5, none⟩))), (29, Pr.ex (w32 ((s.rounds k).f))), (30, Pr.ex (w32 (((s.rounds k).b : UInt32) + ((s.rounds k).f : UInt32)))), (31, Pr.ex (Value.pointer (some ⟨b1, 1, none⟩)))] 9 mixed hN_18 hD_18 (by kernel_rfl) (by kernel_rfl) (by kernel_rfl) ?_ ?_
    · refine Asks.cons ?_ (Asks.cons ?_ (Asks.cons ?_ (Asks.cons ?_ (Asks.cons ?_ (Asks.cons ?_ (Asks.cons ?_ (Asks.cons ?_ (Asks.cons ?_ (Asks.zero _)))))))))
      · refine Ask.plain rfl rfl ?_
        intro aq wq hNq hO hR hT
        replace hR := (Ext.drew _).trans hR
        exact does_move (V := i64 ((1 : Nat) : Int)) ((hO 4 rfl).trans s4_18) ⟨Ext.refl _, rfl⟩
      · refine Ask.plain rfl rfl ?_
        intro aq wq hNq hO hR hT
        replace hR := (Ext.drew _).trans hR
        exact does_indexArr (k := .i64) (i := 1) (o' := 1) arr_54 ((hO 1 rfl).trans s1_18) (hT 23 rfl rfl) (by decide) (by decide) rfl ⟨Ext.refl _, rfl⟩
      · refine Ask.plain rfl rfl ?_
        intro aq wq hNq hO hR hT
        replace hR := (Ext.drew _).trans hR
        exact does_loadD1 (o := 1) (V := w32 ((s.rounds k).b)) (hT 24 rfl rfl) (hbb1_18.ext' hR) rfl one_22 ⟨Ext.refl _, rfl⟩
      · refine Ask.plain rfl rfl ?_
        intro aq wq hNq hO hR hT
        replace hR := (Ext.drew _).trans hR
        exact does_move (V := i64 ((1 : Nat) : Int)) ((hO 4 rfl).trans s4_18) ⟨Ext.refl _, rfl⟩
      · refine Ask.plain rfl rfl ?_
        intro aq wq hNq hO hR hT
        replace hR := (Ext.drew _).trans hR
        exact does_add (a := ((1 : Nat) : Int)) (b := ((4 : Nat) : Int)) (r := ((5 : Nat) : Int)) (hT 26 rfl rfl) rfl (by decide) (by decide) (by decide) ⟨Ext.refl _, rfl⟩
      · refine Ask.plain rfl rfl ?_
        intro aq wq hNq hO hR hT
        replace hR := (Ext.drew _).trans hR
        exact does_indexArr (k := .i64) (i := 5) (o' := 5) arr_54 ((hO 1 rfl).trans s1_18) (hT 27 rfl rfl) (by decide) (by decide) rfl ⟨Ext.refl _, rfl⟩
      · refine Ask.plain rfl rfl ?_
        intro aq wq hNq hO hR hT
        replace hR := (Ext.drew _).trans hR
        exact does_loadD1 (o := 5) (V := w32 ((s.rounds k).f)) (hT 28 rfl rfl) (hbb1_18.ext' hR) rfl one_22 ⟨Ext.refl _, rfl⟩
      · refine Ask.plain rfl rfl ?_
        intro aq wq hNq hO hR hT
        replace hR := (Ext.drew _).trans hR
        exact does_add32 (a := ((s.rounds k).b : UInt32)) (b := ((s.rounds k).f : UInt32)) (hT 25 rfl rfl) (hT 29 rfl rfl) ⟨Ext.refl _, rfl⟩
      · refine Ask.plain rfl rfl ?_
        intro aq wq hNq hO hR hT
        replace hR := (Ext.drew _).trans hR
        exact does_indexArr (k := .i64) (i := 1) (o' := 1) arr_54 ((hO 1 rfl).trans s1_18) (hT 23 rfl rfl) (by decide) (by decide) rfl ⟨Ext.refl _, rfl⟩
    intro a19 wd19 hN_19 hD_19 hO hR hA hU
    obtain ⟨_, _, _, _, _, _, _, t30, t31, _⟩ := hA
    have hE_19 := hE_18.trans hR
    have s1_19 := (hO 1 rfl).trans s1_18
    have s2_19 := (hO 2 rfl).trans s2_18
    have s4_19 := (hO 4 rfl).trans s4_18
    have s5_19 := (hO 5 rfl).trans s5_18
    have s8_19 := (hO 8 rfl).trans s8_18
    have s18_19 := (hO 18 rfl).trans s18_18
    have s19_19 := (hO 19 rfl).trans s19_18
    have hbb1_19 := hbb1_18.ext' hR
    have hbb2_19 := hbb2_18.ext' hR
    have s30_19 : get a19 30 = w32 (((s.rounds k).b : UInt32) + ((s.rounds k).f : UInt32)) := t30
    have s31_19 : get a19 31 = Value.pointer (some ⟨b1, 1, none⟩) := t31
    clear hE_18 hN_18 hD_18 s1_18 s2_18 s4_18 s5_18 s8_18 s18_18 s19_18 hbb1_18 hbb2_18
    refine tail_none rfl rfl (does_storeD (o := 1) (n := 1) (cs' := [w32 ((((s.rounds k).a : UInt32) + ((2654435769 : UInt32) * ((UInt32.ofNat k : UInt32) + (1 : UInt32) : UInt32) : UInt32) : UInt32) + ((s.rounds k).e : UInt32)), w32 (((s.rounds k).b : UInt32) + ((s.rounds k).f : UInt32)), w32 ((s.rounds k).c), w32 ((s.rounds k).d), w32 (rot (((s.rounds k).e : UInt32) ^^^ ((((s.rounds k).a : UInt32) + ((2654435769 : UInt32) * ((UInt32.ofNat k : UInt32) + (1 : UInt32) : UInt32) : UInt32) : UInt32) + ((s.rounds k).e : UInt32) : UInt32)) 7), w32 ((s.rounds k).f), w32 ((s.rounds k).g), w32 ((s.rounds k).h)]) (V := w32 (((s.rounds k).b : UInt32) + ((s.rounds k).f : UInt32))) s31_19 s30_19 hbb1_19 (Nat.le_of_ble_eq_true rfl) rfl siz_22 rfl rfl (fun wd20 hX hz hbb1_20 => ?_))
    have hE_20 := hE_19.since hX (fun k e => e ▸ fr_b1)
    have hbb2_20 := hbb2_19.ext hX ne_b1_b2.symm
    clear hX hz hE_19 hbb1_19 hbb2_19
    refine tail_nil ?_
    refine region_any [] [(32, Pr.ex (i64 ((1 : Nat) : Int))), (33, Pr.ex (i64 ((5 : Nat) : Int))), (34, Pr.ex (i64 ((1 : Nat) : Int))), (35, Pr.ex (i64 ((5 : Nat) : Int))), (36, Pr.ex (Value.pointer (some ⟨b1, 5, none⟩))), (37, Pr.ex (w32 ((s.rounds k).f))), (38, Pr.ex (i64 ((1 : Nat) : Int))), (39, Pr.ex (Value.pointer (some ⟨b1, 1, none⟩))), (40, Pr.ex (w32 (((s.rounds k).b : UInt32) + ((s.rounds k).f : UInt32)))), (41, Pr.ex (w32 (((s.rounds k).f : UInt32) ^^^ (((s.rounds k).b : UInt32) + ((s.rounds k).f : UInt32) : UInt32)))), (42, Pr.ex (i64 ((9 : Nat) : Int))), (43, Pr.ex (w32 (rot (((s.rounds k).f : UInt32) ^^^ (((s.rounds k).b : UInt32) + ((s.rounds k).f : UInt32) : UInt32)) 9))), (44, Pr.ex (Value.pointer (some ⟨b1, 5, none⟩)))] 13 mixed hN_19 hD_19 (by kernel_rfl) (by kernel_rfl) (by kernel_rfl) ?_ ?_
    · refine Asks.cons ?_ (Asks.cons ?_ (Asks.cons ?_ (Asks.cons ?_ (Asks.cons ?_ (Asks.cons ?_ (Asks.cons ?_ (Asks.cons ?_ (Asks.cons ?_ (Asks.cons ?_ (Asks.cons ?_ (Asks.cons ?_ (Asks.cons ?_ (Asks.zero _)))))))))))))
      · refine Ask.plain rfl rfl ?_
        intro aq wq hNq hO hR hT
        replace hR := (Ext.drew _).trans hR
        exact does_move (V := i64 ((1 : Nat) : Int)) ((hO 4 rfl).trans s4_19) ⟨Ext.refl _, rfl⟩
      · refine Ask.plain rfl rfl ?_
        intro aq wq hNq hO hR hT
        replace hR := (Ext.drew _).trans hR
        exact does_add (a := ((1 : Nat) : Int)) (b := ((4 : Nat) : Int)) (r := ((5 : Nat) : Int)) (hT 32 rfl rfl) rfl (by decide) (by decide) (by decide) ⟨Ext.refl _, rfl⟩
      · refine Ask.plain rfl rfl ?_
        intro aq wq hNq hO hR hT
        replace hR := (Ext.drew _).trans hR
        exact does_move (V := i64 ((1 : Nat) : Int)) ((hO 4 rfl).trans s4_19) ⟨Ext.refl _, rfl⟩
      · refine Ask.plain rfl rfl ?_
        intro aq wq hNq hO hR hT
        replace hR := (Ext.drew _).trans hR
        exact does_add (a := ((1 : Nat) : Int)) (b := ((4 : Nat) : Int)) (r := ((5 : Nat) : Int)) (hT 34 rfl rfl) rfl (by decide) (by decide) (by decide) ⟨Ext.refl _, rfl⟩
      · refine Ask.plain rfl rfl ?_
        intro aq wq hNq hO hR hT
        replace hR := (Ext.drew _).trans hR
        exact does_indexArr (k := .i64) (i := 5) (o' := 5) arr_54 ((hO 1 rfl).trans s1_19) (hT 35 rfl rfl) (by decide) (by decide) rfl ⟨Ext.refl _, rfl⟩
      · refine Ask.plain rfl rfl ?_
        intro aq wq hNq hO hR hT
        replace hR := (Ext.drew _).trans hR
        exact does_loadD1 (o := 5) (V := w32 ((s.rounds k).f)) (hT 36 rfl rfl) (hbb1_20.ext' hR) rfl one_22 ⟨Ext.refl _, rfl⟩
      · refine Ask.plain rfl rfl ?_
        intro aq wq hNq hO hR hT
        replace hR := (Ext.drew _).trans hR
        exact does_move (V := i64 ((1 : Nat) : Int)) ((hO 4 rfl).trans s4_19) ⟨Ext.refl _, rfl⟩
      · refine Ask.plain rfl rfl ?_
        intro aq wq hNq hO hR hT
        replace hR := (Ext.drew _).trans hR
        exact does_indexArr (k := .i64) (i := 1) (o' := 1) arr_54 ((hO 1 rfl).trans s1_19) (hT 38 rfl rfl) (by decide) (by decide) rfl ⟨Ext.refl _, rfl⟩
      · refine Ask.plain rfl rfl ?_
        intro aq wq hNq hO hR hT
        replace hR := (Ext.drew _).trans hR
        exact does_loadD1 (o := 1) (V := w32 (((s.rounds k).b : UInt32) + ((s.rounds k).f : UInt32))) (hT 39 rfl rfl) (hbb1_20.ext' hR) rfl one_22 ⟨Ext.refl _, rfl⟩
      · refine Ask.plain rfl rfl ?_
        intro aq wq hNq hO hR hT
        replace hR := (Ext.drew _).trans hR
        exact does_xor32 (a := ((s.rounds k).f : UInt32)) (b := (((s.rounds k).b : UInt32) + ((s.rounds k).f : UInt32) : UInt32)) (hT 37 rfl rfl) (hT 40 rfl rfl) ⟨Ext.refl _, rfl⟩
      · refine Ask.plain rfl rfl ?_
        intro aq wq hNq hO hR hT
        replace hR := (Ext.drew _).trans hR
        exact does_move (V := i64 ((9 : Nat) : Int)) ((hO 5 rfl).trans s5_19) ⟨Ext.refl _, rfl⟩
      · refine Ask.plain rfl rfl ?_
        intro aq wq hNq hO hR hT
        replace hR := (Ext.drew _).trans hR
        exact does_ret (vs := #[w32 (((s.rounds k).f : UInt32) ^^^ (((s.rounds k).b : UInt32) + ((s.rounds k).f : UInt32) : UInt32)), i64 ((9 : Nat) : Int)]) call_65 (args2 (hT 41 rfl rfl) (hT 42 rfl rfl)) rfl ((turn (((s.rounds k).f : UInt32) ^^^ (((s.rounds k).b : UInt32) + ((s.rounds k).f : UInt32) : UInt32)) (9) wq (by decide)).mono fun v w2 h => ⟨h.2, h.1⟩)
      · refine Ask.plain rfl rfl ?_
        intro aq wq hNq hO hR hT
        replace hR := (Ext.drew _).trans hR
        exact does_indexArr (k := .i64) (i := 5) (o' := 5) arr_54 ((hO 1 rfl).trans s1_19) (hT 33 rfl rfl) (by decide) (by decide) rfl ⟨Ext.refl _, rfl⟩
    intro a21 wd21 hN_21 hD_21 hO hR hA hU
    obtain ⟨_, _, _, _, _, _, _, _, _, _, _, t43, t44, _⟩ := hA
    have hE_21 := hE_20.trans hR
    have s1_21 := (hO 1 rfl).trans s1_19
    have s2_21 := (hO 2 rfl).trans s2_19
    have s8_21 := (hO 8 rfl).trans s8_19
    have s18_21 := (hO 18 rfl).trans s18_19
    have s19_21 := (hO 19 rfl).trans s19_19
    have hbb1_21 := hbb1_20.ext' hR
    have hbb2_21 := hbb2_20.ext' hR
    have s43_21 : get a21 43 = w32 (rot (((s.rounds k).f : UInt32) ^^^ (((s.rounds k).b : UInt32) + ((s.rounds k).f : UInt32) : UInt32)) 9) := t43
    have s44_21 : get a21 44 = Value.pointer (some ⟨b1, 5, none⟩) := t44
    clear hE_20 hN_19 hD_19 s1_19 s2_19 s4_19 s5_19 s8_19 s18_19 s19_19 s30_19 s31_19 hbb1_20 hbb2_20
    refine tail_none rfl rfl (does_storeD (o := 5) (n := 1) (cs' := [w32 ((((s.rounds k).a : UInt32) + ((2654435769 : UInt32) * ((UInt32.ofNat k : UInt32) + (1 : UInt32) : UInt32) : UInt32) : UInt32) + ((s.rounds k).e : UInt32)), w32 (((s.rounds k).b : UInt32) + ((s.rounds k).f : UInt32)), w32 ((s.rounds k).c), w32 ((s.rounds k).d), w32 (rot (((s.rounds k).e : UInt32) ^^^ ((((s.rounds k).a : UInt32) + ((2654435769 : UInt32) * ((UInt32.ofNat k : UInt32) + (1 : UInt32) : UInt32) : UInt32) : UInt32) + ((s.rounds k).e : UInt32) : UInt32)) 7), w32 (rot (((s.rounds k).f : UInt32) ^^^ (((s.rounds k).b : UInt32) + ((s.rounds k).f : UInt32) : UInt32)) 9), w32 ((s.rounds k).g), w32 ((s.rounds k).h)]) (V := w32 (rot (((s.rounds k).f : UInt32) ^^^ (((s.rounds k).b : UInt32) + ((s.rounds k).f : UInt32) : UInt32)) 9)) s44_21 s43_21 hbb1_21 (Nat.le_of_ble_eq_true rfl) rfl siz_22 rfl rfl (fun wd22 hX hz hbb1_22 => ?_))
    have hE_22 := hE_21.since hX (fun k e => e ▸ fr_b1)
    have hbb2_22 := hbb2_21.ext hX ne_b1_b2.symm
    clear hX hz hE_21 hbb1_21 hbb2_21
    refine tail_nil ?_
    refine region_lex [] [(45, Pr.ex (i64 ((2 : Nat) : Int)))] 1 hN_21 hD_21 (by kernel_rfl) (by kernel_rfl) ?_ ?_
    · refine Asks.cons ?_ (Asks.zero _)
      · refine Ask.plain rfl rfl ?_
        intro aq wq hNq hO hR hT
        exact does_add (a := ((1 : Nat) : Int)) (b := ((1 : Nat) : Int)) (r := ((2 : Nat) : Int)) ((hO 19 rfl).trans s19_21) rfl (by decide) (by decide) (by decide) ⟨Ext.refl _, rfl⟩
    intro a23 wd23 hN_23 hD_23 hO hR hA hU
    obtain ⟨t45, _⟩ := hA
    have hE_23 := hE_22.trans hR
    have s1_23 := (hO 1 rfl).trans s1_21
    have s2_23 := (hO 2 rfl).trans s2_21
    have s8_23 := (hO 8 rfl).trans s8_21
    have s18_23 := (hO 18 rfl).trans s18_21
    have s19_23 := (hO 19 rfl).trans s19_21
    have hbb1_23 := hbb1_22.ext' hR
    have hbb2_23 := hbb2_22.ext' hR
    have s45_23 : get a23 45 = i64 ((2 : Nat) : Int) := t45
    clear hE_22 hN_21 hD_21 s1_21 s2_21 s8_21 s18_21 s19_21 s43_21 s44_21 hbb1_22 hbb2_22
    refine tail_put rfl rfl hN_23 hD_23 (by decide) (does_move (V := i64 ((2 : Nat) : Int)) s45_23 (fun a24 hN_24 hD_24 hv hO => ?_))
    have s19_24 := hv
    have s1_24 := (hO 1 rfl).trans s1_23
    have s2_24 := (hO 2 rfl).trans s2_23
    have s8_24 := (hO 8 rfl).trans s8_23
    have s18_24 := (hO 18 rfl).trans s18_23
    clear hO hv hN_23 hD_23 s1_23 s2_23 s8_23 s18_23 s45_23 s19_23
    refine tail_nil ?_
    refine round_step ?_
    refine wp_seq ?_
    refine region_lex [] [(20, Pr.ex (Value.bool (true)))] 1 hN_24 hD_24 (by kernel_rfl) (by kernel_rfl) ?_ ?_
    · refine Asks.cons ?_ (Asks.zero _)
      · refine Ask.plain rfl rfl ?_
        intro aq wq hNq hO hR hT
        exact does_lss (a := ((2 : Nat) : Int)) (b := ((4 : Nat) : Int)) ((hO 19 rfl).trans s19_24) rfl ⟨Ext.refl _, rfl⟩
    intro a25 wd25 hN_25 hD_25 hO hR hA hU
    obtain ⟨t20, _⟩ := hA
    have hE_25 := hE_23.trans hR
    have s1_25 := (hO 1 rfl).trans s1_24
    have s2_25 := (hO 2 rfl).trans s2_24
    have s8_25 := (hO 8 rfl).trans s8_24
    have s18_25 := (hO 18 rfl).trans s18_24
    have s19_25 := (hO 19 rfl).trans s19_24
    have hbb1_25 := hbb1_23.ext' hR
    have hbb2_25 := hbb2_23.ext' hR
    have s20_25 : get a25 20 = Value.bool (true) := t20
    clear hE_23 hN_24 hD_24 s1_24 s2_24 s8_24 s18_24 s19_24 hbb1_23 hbb2_23
    refine tail_nil ?_
    refine wp_seq ?_
    refine wp_ifT s20_25 ?_
    refine wp_skip ?_
    refine wp_seq ?_
    refine wp_block ?_
    refine wp_seq ?_
    refine region_lex [] [(21, Pr.ex (i64 ((2 : Nat) : Int))), (22, Pr.ex (i64 ((13 : Nat) : Int))), (4, Pr.ex (i64 ((2 : Nat) : Int))), (5, Pr.ex (i64 ((13 : Nat) : Int)))] 4 hN_25 hD_25 (by kernel_rfl) (by kernel_rfl) ?_ ?_
    · refine Asks.cons ?_ (Asks.cons ?_ (Asks.cons ?_ (Asks.cons ?_ (Asks.zero _))))
      · refine Ask.plain rfl rfl ?_
        intro aq wq hNq hO hR hT
        exact does_move (V := i64 ((2 : Nat) : Int)) ((hO 19 rfl).trans s19_25) ⟨Ext.refl _, rfl⟩
      · refine Ask.plain rfl rfl ?_
        intro aq wq hNq hO hR hT
        exact does_indexArrV (cs := [i64 ((7 : Nat) : Int), i64 ((9 : Nat) : Int), i64 ((13 : Nat) : Int), i64 ((18 : Nat) : Int)]) (k := .i64) (i := 2) (V := i64 ((13 : Nat) : Int)) arr_91 one_3 ((hO 18 rfl).trans s18_25) ((hO 19 rfl).trans s19_25) (by decide) (by decide) rfl ⟨Ext.refl _, rfl⟩
      · refine Ask.plain rfl rfl ?_
        intro aq wq hNq hO hR hT
        exact does_assign (V := i64 ((2 : Nat) : Int)) (hT 21 rfl rfl) ⟨Ext.refl _, rfl⟩
      · refine Ask.plain rfl rfl ?_
        intro aq wq hNq hO hR hT
        exact does_assign (V := i64 ((13 : Nat) : Int)) (hT 22 rfl rfl) ⟨Ext.refl _, rfl⟩
    intro a26 wd26 hN_26 hD_26 hO hR hA hU
    obtain ⟨_, _, t4, t5, _⟩ := hA
    have hE_26 := hE_25.trans hR
    have s1_26 := (hO 1 rfl).trans s1_25
    have s2_26 := (hO 2 rfl).trans s2_25
    have s8_26 := (hO 8 rfl).trans s8_25
    have s18_26 := (hO 18 rfl).trans s18_25
    have s19_26 := (hO 19 rfl).trans s19_25
    have hbb1_26 := hbb1_25.ext' hR
    have hbb2_26 := hbb2_25.ext' hR
    have s4_26 : get a26 4 = i64 ((2 : Nat) : Int) := t4
    have s5_26 : get a26 5 = i64 ((13 : Nat) : Int) := t5
    clear hE_25 hN_25 hD_25 s1_25 s2_25 s8_25 s18_25 s19_25 s20_25 hbb1_25 hbb2_25
    refine tail_nil ?_
    refine wp_seq ?_
    refine region_any [] [(23, Pr.ex (i64 ((2 : Nat) : Int))), (24, Pr.ex (Value.pointer (some ⟨b1, 2, none⟩))), (25, Pr.ex (w32 ((s.rounds k).c))), (26, Pr.ex (i64 ((2 : Nat) : Int))), (27, Pr.ex (i64 ((6 : Nat) : Int))), (28, Pr.ex (Value.pointer (some ⟨b1, 6, none⟩))), (29, Pr.ex (w32 ((s.rounds k).g))), (30, Pr.ex (w32 (((s.rounds k).c : UInt32) + ((s.rounds k).g : UInt32)))), (31, Pr.ex (Value.pointer (some ⟨b1, 2, none⟩)))] 9 mixed hN_26 hD_26 (by kernel_rfl) (by kernel_rfl) (by kernel_rfl) ?_ ?_
    · refine Asks.cons ?_ (Asks.cons ?_ (Asks.cons ?_ (Asks.cons ?_ (Asks.cons ?_ (Asks.cons ?_ (Asks.cons ?_ (Asks.cons ?_ (Asks.cons ?_ (Asks.zero _)))))))))
      · refine Ask.plain rfl rfl ?_
        intro aq wq hNq hO hR hT
        replace hR := (Ext.drew _).trans hR
        exact does_move (V := i64 ((2 : Nat) : Int)) ((hO 4 rfl).trans s4_26) ⟨Ext.refl _, rfl⟩
      · refine Ask.plain rfl rfl ?_
        intro aq wq hNq hO hR hT
        replace hR := (Ext.drew _).trans hR
        exact does_indexArr (k := .i64) (i := 2) (o' := 2) arr_54 ((hO 1 rfl).trans s1_26) (hT 23 rfl rfl) (by decide) (by decide) rfl ⟨Ext.refl _, rfl⟩
      · refine Ask.plain rfl rfl ?_
        intro aq wq hNq hO hR hT
        replace hR := (Ext.drew _).trans hR
        exact does_loadD1 (o := 2) (V := w32 ((s.rounds k).c)) (hT 24 rfl rfl) (hbb1_26.ext' hR) rfl one_22 ⟨Ext.refl _, rfl⟩
      · refine Ask.plain rfl rfl ?_
        intro aq wq hNq hO hR hT
        replace hR := (Ext.drew _).trans hR
        exact does_move (V := i64 ((2 : Nat) : Int)) ((hO 4 rfl).trans s4_26) ⟨Ext.refl _, rfl⟩
      · refine Ask.plain rfl rfl ?_
        intro aq wq hNq hO hR hT
        replace hR := (Ext.drew _).trans hR
        exact does_add (a := ((2 : Nat) : Int)) (b := ((4 : Nat) : Int)) (r := ((6 : Nat) : Int)) (hT 26 rfl rfl) rfl (by decide) (by decide) (by decide) ⟨Ext.refl _, rfl⟩
      · refine Ask.plain rfl rfl ?_
        intro aq wq hNq hO hR hT
        replace hR := (Ext.drew _).trans hR
        exact does_indexArr (k := .i64) (i := 6) (o' := 6) arr_54 ((hO 1 rfl).trans s1_26) (hT 27 rfl rfl) (by decide) (by decide) rfl ⟨Ext.refl _, rfl⟩
      · refine Ask.plain rfl rfl ?_
        intro aq wq hNq hO hR hT
        replace hR := (Ext.drew _).trans hR
        exact does_loadD1 (o := 6) (V := w32 ((s.rounds k).g)) (hT 28 rfl rfl) (hbb1_26.ext' hR) rfl one_22 ⟨Ext.refl _, rfl⟩
      · refine Ask.plain rfl rfl ?_
        intro aq wq hNq hO hR hT
        replace hR := (Ext.drew _).trans hR
        exact does_add32 (a := ((s.rounds k).c : UInt32)) (b := ((s.rounds k).g : UInt32)) (hT 25 rfl rfl) (hT 29 rfl rfl) ⟨Ext.refl _, rfl⟩
      · refine Ask.plain rfl rfl ?_
        intro aq wq hNq hO hR hT
        replace hR := (Ext.drew _).trans hR
        exact does_indexArr (k := .i64) (i := 2) (o' := 2) arr_54 ((hO 1 rfl).trans s1_26) (hT 23 rfl rfl) (by decide) (by decide) rfl ⟨Ext.refl _, rfl⟩
    intro a27 wd27 hN_27 hD_27 hO hR hA hU
    obtain ⟨_, _, _, _, _, _, _, t30, t31, _⟩ := hA
    have hE_27 := hE_26.trans hR
    have s1_27 := (hO 1 rfl).trans s1_26
    have s2_27 := (hO 2 rfl).trans s2_26
    have s4_27 := (hO 4 rfl).trans s4_26
    have s5_27 := (hO 5 rfl).trans s5_26
    have s8_27 := (hO 8 rfl).trans s8_26
    have s18_27 := (hO 18 rfl).trans s18_26
    have s19_27 := (hO 19 rfl).trans s19_26
    have hbb1_27 := hbb1_26.ext' hR
    have hbb2_27 := hbb2_26.ext' hR
    have s30_27 : get a27 30 = w32 (((s.rounds k).c : UInt32) + ((s.rounds k).g : UInt32)) := t30
    have s31_27 : get a27 31 = Value.pointer (some ⟨b1, 2, none⟩) := t31
    clear hE_26 hN_26 hD_26 s1_26 s2_26 s4_26 s5_26 s8_26 s18_26 s19_26 hbb1_26 hbb2_26
    refine tail_none rfl rfl (does_storeD (o := 2) (n := 1) (cs' := [w32 ((((s.rounds k).a : UInt32) + ((2654435769 : UInt32) * ((UInt32.ofNat k : UInt32) + (1 : UInt32) : UInt32) : UInt32) : UInt32) + ((s.rounds k).e : UInt32)), w32 (((s.rounds k).b : UInt32) + ((s.rounds k).f : UInt32)), w32 (((s.rounds k).c : UInt32) + ((s.rounds k).g : UInt32)), w32 ((s.rounds k).d), w32 (rot (((s.rounds k).e : UInt32) ^^^ ((((s.rounds k).a : UInt32) + ((2654435769 : UInt32) * ((UInt32.ofNat k : UInt32) + (1 : UInt32) : UInt32) : UInt32) : UInt32) + ((s.rounds k).e : UInt32) : UInt32)) 7), w32 (rot (((s.rounds k).f : UInt32) ^^^ (((s.rounds k).b : UInt32) + ((s.rounds k).f : UInt32) : UInt32)) 9), w32 ((s.rounds k).g), w32 ((s.rounds k).h)]) (V := w32 (((s.rounds k).c : UInt32) + ((s.rounds k).g : UInt32))) s31_27 s30_27 hbb1_27 (Nat.le_of_ble_eq_true rfl) rfl siz_22 rfl rfl (fun wd28 hX hz hbb1_28 => ?_))
    have hE_28 := hE_27.since hX (fun k e => e ▸ fr_b1)
    have hbb2_28 := hbb2_27.ext hX ne_b1_b2.symm
    clear hX hz hE_27 hbb1_27 hbb2_27
    refine tail_nil ?_
    refine region_any [] [(32, Pr.ex (i64 ((2 : Nat) : Int))), (33, Pr.ex (i64 ((6 : Nat) : Int))), (34, Pr.ex (i64 ((2 : Nat) : Int))), (35, Pr.ex (i64 ((6 : Nat) : Int))), (36, Pr.ex (Value.pointer (some ⟨b1, 6, none⟩))), (37, Pr.ex (w32 ((s.rounds k).g))), (38, Pr.ex (i64 ((2 : Nat) : Int))), (39, Pr.ex (Value.pointer (some ⟨b1, 2, none⟩))), (40, Pr.ex (w32 (((s.rounds k).c : UInt32) + ((s.rounds k).g : UInt32)))), (41, Pr.ex (w32 (((s.rounds k).g : UInt32) ^^^ (((s.rounds k).c : UInt32) + ((s.rounds k).g : UInt32) : UInt32)))), (42, Pr.ex (i64 ((13 : Nat) : Int))), (43, Pr.ex (w32 (rot (((s.rounds k).g : UInt32) ^^^ (((s.rounds k).c : UInt32) + ((s.rounds k).g : UInt32) : UInt32)) 13))), (44, Pr.ex (Value.pointer (some ⟨b1, 6, none⟩)))] 13 mixed hN_27 hD_27 (by kernel_rfl) (by kernel_rfl) (by kernel_rfl) ?_ ?_
    · refine Asks.cons ?_ (Asks.cons ?_ (Asks.cons ?_ (Asks.cons ?_ (Asks.cons ?_ (Asks.cons ?_ (Asks.cons ?_ (Asks.cons ?_ (Asks.cons ?_ (Asks.cons ?_ (Asks.cons ?_ (Asks.cons ?_ (Asks.cons ?_ (Asks.zero _)))))))))))))
      · refine Ask.plain rfl rfl ?_
        intro aq wq hNq hO hR hT
        replace hR := (Ext.drew _).trans hR
        exact does_move (V := i64 ((2 : Nat) : Int)) ((hO 4 rfl).trans s4_27) ⟨Ext.refl _, rfl⟩
      · refine Ask.plain rfl rfl ?_
        intro aq wq hNq hO hR hT
        replace hR := (Ext.drew _).trans hR
        exact does_add (a := ((2 : Nat) : Int)) (b := ((4 : Nat) : Int)) (r := ((6 : Nat) : Int)) (hT 32 rfl rfl) rfl (by decide) (by decide) (by decide) ⟨Ext.refl _, rfl⟩
      · refine Ask.plain rfl rfl ?_
        intro aq wq hNq hO hR hT
        replace hR := (Ext.drew _).trans hR
        exact does_move (V := i64 ((2 : Nat) : Int)) ((hO 4 rfl).trans s4_27) ⟨Ext.refl _, rfl⟩
      · refine Ask.plain rfl rfl ?_
        intro aq wq hNq hO hR hT
        replace hR := (Ext.drew _).trans hR
        exact does_add (a := ((2 : Nat) : Int)) (b := ((4 : Nat) : Int)) (r := ((6 : Nat) : Int)) (hT 34 rfl rfl) rfl (by decide) (by decide) (by decide) ⟨Ext.refl _, rfl⟩
      · refine Ask.plain rfl rfl ?_
        intro aq wq hNq hO hR hT
        replace hR := (Ext.drew _).trans hR
        exact does_indexArr (k := .i64) (i := 6) (o' := 6) arr_54 ((hO 1 rfl).trans s1_27) (hT 35 rfl rfl) (by decide) (by decide) rfl ⟨Ext.refl _, rfl⟩
      · refine Ask.plain rfl rfl ?_
        intro aq wq hNq hO hR hT
        replace hR := (Ext.drew _).trans hR
        exact does_loadD1 (o := 6) (V := w32 ((s.rounds k).g)) (hT 36 rfl rfl) (hbb1_28.ext' hR) rfl one_22 ⟨Ext.refl _, rfl⟩
      · refine Ask.plain rfl rfl ?_
        intro aq wq hNq hO hR hT
        replace hR := (Ext.drew _).trans hR
        exact does_move (V := i64 ((2 : Nat) : Int)) ((hO 4 rfl).trans s4_27) ⟨Ext.refl _, rfl⟩
      · refine Ask.plain rfl rfl ?_
        intro aq wq hNq hO hR hT
        replace hR := (Ext.drew _).trans hR
        exact does_indexArr (k := .i64) (i := 2) (o' := 2) arr_54 ((hO 1 rfl).trans s1_27) (hT 38 rfl rfl) (by decide) (by decide) rfl ⟨Ext.refl _, rfl⟩
      · refine Ask.plain rfl rfl ?_
        intro aq wq hNq hO hR hT
        replace hR := (Ext.drew _).trans hR
        exact does_loadD1 (o := 2) (V := w32 (((s.rounds k).c : UInt32) + ((s.rounds k).g : UInt32))) (hT 39 rfl rfl) (hbb1_28.ext' hR) rfl one_22 ⟨Ext.refl _, rfl⟩
      · refine Ask.plain rfl rfl ?_
        intro aq wq hNq hO hR hT
        replace hR := (Ext.drew _).trans hR
        exact does_xor32 (a := ((s.rounds k).g : UInt32)) (b := (((s.rounds k).c : UInt32) + ((s.rounds k).g : UInt32) : UInt32)) (hT 37 rfl rfl) (hT 40 rfl rfl) ⟨Ext.refl _, rfl⟩
      · refine Ask.plain rfl rfl ?_
        intro aq wq hNq hO hR hT
        replace hR := (Ext.drew _).trans hR
        exact does_move (V := i64 ((13 : Nat) : Int)) ((hO 5 rfl).trans s5_27) ⟨Ext.refl _, rfl⟩
      · refine Ask.plain rfl rfl ?_
        intro aq wq hNq hO hR hT
        replace hR := (Ext.drew _).trans hR
        exact does_ret (vs := #[w32 (((s.rounds k).g : UInt32) ^^^ (((s.rounds k).c : UInt32) + ((s.rounds k).g : UInt32) : UInt32)), i64 ((13 : Nat) : Int)]) call_65 (args2 (hT 41 rfl rfl) (hT 42 rfl rfl)) rfl ((turn (((s.rounds k).g : UInt32) ^^^ (((s.rounds k).c : UInt32) + ((s.rounds k).g : UInt32) : UInt32)) (13) wq (by decide)).mono fun v w2 h => ⟨h.2, h.1⟩)
      · refine Ask.plain rfl rfl ?_
        intro aq wq hNq hO hR hT
        replace hR := (Ext.drew _).trans hR
        exact does_indexArr (k := .i64) (i := 6) (o' := 6) arr_54 ((hO 1 rfl).trans s1_27) (hT 33 rfl rfl) (by decide) (by decide) rfl ⟨Ext.refl _, rfl⟩
    intro a29 wd29 hN_29 hD_29 hO hR hA hU
    obtain ⟨_, _, _, _, _, _, _, _, _, _, _, t43, t44, _⟩ := hA
    have hE_29 := hE_28.trans hR
    have s1_29 := (hO 1 rfl).trans s1_27
    have s2_29 := (hO 2 rfl).trans s2_27
    have s8_29 := (hO 8 rfl).trans s8_27
    have s18_29 := (hO 18 rfl).trans s18_27
    have s19_29 := (hO 19 rfl).trans s19_27
    have hbb1_29 := hbb1_28.ext' hR
    have hbb2_29 := hbb2_28.ext' hR
    have s43_29 : get a29 43 = w32 (rot (((s.rounds k).g : UInt32) ^^^ (((s.rounds k).c : UInt32) + ((s.rounds k).g : UInt32) : UInt32)) 13) := t43
    have s44_29 : get a29 44 = Value.pointer (some ⟨b1, 6, none⟩) := t44
    clear hE_28 hN_27 hD_27 s1_27 s2_27 s4_27 s5_27 s8_27 s18_27 s19_27 s30_27 s31_27 hbb1_28 hbb2_28
    refine tail_none rfl rfl (does_storeD (o := 6) (n := 1) (cs' := [w32 ((((s.rounds k).a : UInt32) + ((2654435769 : UInt32) * ((UInt32.ofNat k : UInt32) + (1 : UInt32) : UInt32) : UInt32) : UInt32) + ((s.rounds k).e : UInt32)), w32 (((s.rounds k).b : UInt32) + ((s.rounds k).f : UInt32)), w32 (((s.rounds k).c : UInt32) + ((s.rounds k).g : UInt32)), w32 ((s.rounds k).d), w32 (rot (((s.rounds k).e : UInt32) ^^^ ((((s.rounds k).a : UInt32) + ((2654435769 : UInt32) * ((UInt32.ofNat k : UInt32) + (1 : UInt32) : UInt32) : UInt32) : UInt32) + ((s.rounds k).e : UInt32) : UInt32)) 7), w32 (rot (((s.rounds k).f : UInt32) ^^^ (((s.rounds k).b : UInt32) + ((s.rounds k).f : UInt32) : UInt32)) 9), w32 (rot (((s.rounds k).g : UInt32) ^^^ (((s.rounds k).c : UInt32) + ((s.rounds k).g : UInt32) : UInt32)) 13), w32 ((s.rounds k).h)]) (V := w32 (rot (((s.rounds k).g : UInt32) ^^^ (((s.rounds k).c : UInt32) + ((s.rounds k).g : UInt32) : UInt32)) 13)) s44_29 s43_29 hbb1_29 (Nat.le_of_ble_eq_true rfl) rfl siz_22 rfl rfl (fun wd30 hX hz hbb1_30 => ?_))
    have hE_30 := hE_29.since hX (fun k e => e ▸ fr_b1)
    have hbb2_30 := hbb2_29.ext hX ne_b1_b2.symm
    clear hX hz hE_29 hbb1_29 hbb2_29
    refine tail_nil ?_
    refine region_lex [] [(45, Pr.ex (i64 ((3 : Nat) : Int)))] 1 hN_29 hD_29 (by kernel_rfl) (by kernel_rfl) ?_ ?_
    · refine Asks.cons ?_ (Asks.zero _)
      · refine Ask.plain rfl rfl ?_
        intro aq wq hNq hO hR hT
        exact does_add (a := ((2 : Nat) : Int)) (b := ((1 : Nat) : Int)) (r := ((3 : Nat) : Int)) ((hO 19 rfl).trans s19_29) rfl (by decide) (by decide) (by decide) ⟨Ext.refl _, rfl⟩
    intro a31 wd31 hN_31 hD_31 hO hR hA hU
    obtain ⟨t45, _⟩ := hA
    have hE_31 := hE_30.trans hR
    have s1_31 := (hO 1 rfl).trans s1_29
    have s2_31 := (hO 2 rfl).trans s2_29
    have s8_31 := (hO 8 rfl).trans s8_29
    have s18_31 := (hO 18 rfl).trans s18_29
    have s19_31 := (hO 19 rfl).trans s19_29
    have hbb1_31 := hbb1_30.ext' hR
    have hbb2_31 := hbb2_30.ext' hR
    have s45_31 : get a31 45 = i64 ((3 : Nat) : Int) := t45
    clear hE_30 hN_29 hD_29 s1_29 s2_29 s8_29 s18_29 s19_29 s43_29 s44_29 hbb1_30 hbb2_30
    refine tail_put rfl rfl hN_31 hD_31 (by decide) (does_move (V := i64 ((3 : Nat) : Int)) s45_31 (fun a32 hN_32 hD_32 hv hO => ?_))
    have s19_32 := hv
    have s1_32 := (hO 1 rfl).trans s1_31
    have s2_32 := (hO 2 rfl).trans s2_31
    have s8_32 := (hO 8 rfl).trans s8_31
    have s18_32 := (hO 18 rfl).trans s18_31
    clear hO hv hN_31 hD_31 s1_31 s2_31 s8_31 s18_31 s45_31 s19_31
    refine tail_nil ?_
    refine round_step ?_
    refine wp_seq ?_
    refine region_lex [] [(20, Pr.ex (Value.bool (true)))] 1 hN_32 hD_32 (by kernel_rfl) (by kernel_rfl) ?_ ?_
    · refine Asks.cons ?_ (Asks.zero _)
      · refine Ask.plain rfl rfl ?_
        intro aq wq hNq hO hR hT
        exact does_lss (a := ((3 : Nat) : Int)) (b := ((4 : Nat) : Int)) ((hO 19 rfl).trans s19_32) rfl ⟨Ext.refl _, rfl⟩
    intro a33 wd33 hN_33 hD_33 hO hR hA hU
    obtain ⟨t20, _⟩ := hA
    have hE_33 := hE_31.trans hR
    have s1_33 := (hO 1 rfl).trans s1_32
    have s2_33 := (hO 2 rfl).trans s2_32
    have s8_33 := (hO 8 rfl).trans s8_32
    have s18_33 := (hO 18 rfl).trans s18_32
    have s19_33 := (hO 19 rfl).trans s19_32
    have hbb1_33 := hbb1_31.ext' hR
    have hbb2_33 := hbb2_31.ext' hR
    have s20_33 : get a33 20 = Value.bool (true) := t20
    clear hE_31 hN_32 hD_32 s1_32 s2_32 s8_32 s18_32 s19_32 hbb1_31 hbb2_31
    refine tail_nil ?_
    refine wp_seq ?_
    refine wp_ifT s20_33 ?_
    refine wp_skip ?_
    refine wp_seq ?_
    refine wp_block ?_
    refine wp_seq ?_
    refine region_lex [] [(21, Pr.ex (i64 ((3 : Nat) : Int))), (22, Pr.ex (i64 ((18 : Nat) : Int))), (4, Pr.ex (i64 ((3 : Nat) : Int))), (5, Pr.ex (i64 ((18 : Nat) : Int)))] 4 hN_33 hD_33 (by kernel_rfl) (by kernel_rfl) ?_ ?_
    · refine Asks.cons ?_ (Asks.cons ?_ (Asks.cons ?_ (Asks.cons ?_ (Asks.zero _))))
      · refine Ask.plain rfl rfl ?_
        intro aq wq hNq hO hR hT
        exact does_move (V := i64 ((3 : Nat) : Int)) ((hO 19 rfl).trans s19_33) ⟨Ext.refl _, rfl⟩
      · refine Ask.plain rfl rfl ?_
        intro aq wq hNq hO hR hT
        exact does_indexArrV (cs := [i64 ((7 : Nat) : Int), i64 ((9 : Nat) : Int), i64 ((13 : Nat) : Int), i64 ((18 : Nat) : Int)]) (k := .i64) (i := 3) (V := i64 ((18 : Nat) : Int)) arr_91 one_3 ((hO 18 rfl).trans s18_33) ((hO 19 rfl).trans s19_33) (by decide) (by decide) rfl ⟨Ext.refl _, rfl⟩
      · refine Ask.plain rfl rfl ?_
        intro aq wq hNq hO hR hT
        exact does_assign (V := i64 ((3 : Nat) : Int)) (hT 21 rfl rfl) ⟨Ext.refl _, rfl⟩
      · refine Ask.plain rfl rfl ?_
        intro aq wq hNq hO hR hT
        exact does_assign (V := i64 ((18 : Nat) : Int)) (hT 22 rfl rfl) ⟨Ext.refl _, rfl⟩
    intro a34 wd34 hN_34 hD_34 hO hR hA hU
    obtain ⟨_, _, t4, t5, _⟩ := hA
    have hE_34 := hE_33.trans hR
    have s1_34 := (hO 1 rfl).trans s1_33
    have s2_34 := (hO 2 rfl).trans s2_33
    have s8_34 := (hO 8 rfl).trans s8_33
    have s18_34 := (hO 18 rfl).trans s18_33
    have s19_34 := (hO 19 rfl).trans s19_33
    have hbb1_34 := hbb1_33.ext' hR
    have hbb2_34 := hbb2_33.ext' hR
    have s4_34 : get a34 4 = i64 ((3 : Nat) : Int) := t4
    have s5_34 : get a34 5 = i64 ((18 : Nat) : Int) := t5
    clear hE_33 hN_33 hD_33 s1_33 s2_33 s8_33 s18_33 s19_33 s20_33 hbb1_33 hbb2_33
    refine tail_nil ?_
    refine wp_seq ?_
    refine region_any [] [(23, Pr.ex (i64 ((3 : Nat) : Int))), (24, Pr.ex (Value.pointer (some ⟨b1, 3, none⟩))), (25, Pr.ex (w32 ((s.rounds k).d))), (26, Pr.ex (i64 ((3 : Nat) : Int))), (27, Pr.ex (i64 ((7 : Nat) : Int))), (28, Pr.ex (Value.pointer (some ⟨b1, 7, none⟩))), (29, Pr.ex (w32 ((s.rounds k).h))), (30, Pr.ex (w32 (((s.rounds k).d : UInt32) + ((s.rounds k).h : UInt32)))), (31, Pr.ex (Value.pointer (some ⟨b1, 3, none⟩)))] 9 mixed hN_34 hD_34 (by kernel_rfl) (by kernel_rfl) (by kernel_rfl) ?_ ?_
    · refine Asks.cons ?_ (Asks.cons ?_ (Asks.cons ?_ (Asks.cons ?_ (Asks.cons ?_ (Asks.cons ?_ (Asks.cons ?_ (Asks.cons ?_ (Asks.cons ?_ (Asks.zero _)))))))))
      · refine Ask.plain rfl rfl ?_
        intro aq wq hNq hO hR hT
        replace hR := (Ext.drew _).trans hR
        exact does_move (V := i64 ((3 : Nat) : Int)) ((hO 4 rfl).trans s4_34) ⟨Ext.refl _, rfl⟩
      · refine Ask.plain rfl rfl ?_
        intro aq wq hNq hO hR hT
        replace hR := (Ext.drew _).trans hR
        exact does_indexArr (k := .i64) (i := 3) (o' := 3) arr_54 ((hO 1 rfl).trans s1_34) (hT 23 rfl rfl) (by decide) (by decide) rfl ⟨Ext.refl _, rfl⟩
      · refine Ask.plain rfl rfl ?_
        intro aq wq hNq hO hR hT
        replace hR := (Ext.drew _).trans hR
        exact does_loadD1 (o := 3) (V := w32 ((s.rounds k).d)) (hT 24 rfl rfl) (hbb1_34.ext' hR) rfl one_22 ⟨Ext.refl _, rfl⟩
      · refine Ask.plain rfl rfl ?_
        intro aq wq hNq hO hR hT
        replace hR := (Ext.drew _).trans hR
        exact does_move (V := i64 ((3 : Nat) : Int)) ((hO 4 rfl).trans s4_34) ⟨Ext.refl _, rfl⟩
      · refine Ask.plain rfl rfl ?_
        intro aq wq hNq hO hR hT
        replace hR := (Ext.drew _).trans hR
        exact does_add (a := ((3 : Nat) : Int)) (b := ((4 : Nat) : Int)) (r := ((7 : Nat) : Int)) (hT 26 rfl rfl) rfl (by decide) (by decide) (by decide) ⟨Ext.refl _, rfl⟩
      · refine Ask.plain rfl rfl ?_
        intro aq wq hNq hO hR hT
        replace hR := (Ext.drew _).trans hR
        exact does_indexArr (k := .i64) (i := 7) (o' := 7) arr_54 ((hO 1 rfl).trans s1_34) (hT 27 rfl rfl) (by decide) (by decide) rfl ⟨Ext.refl _, rfl⟩
      · refine Ask.plain rfl rfl ?_
        intro aq wq hNq hO hR hT
        replace hR := (Ext.drew _).trans hR
        exact does_loadD1 (o := 7) (V := w32 ((s.rounds k).h)) (hT 28 rfl rfl) (hbb1_34.ext' hR) rfl one_22 ⟨Ext.refl _, rfl⟩
      · refine Ask.plain rfl rfl ?_
        intro aq wq hNq hO hR hT
        replace hR := (Ext.drew _).trans hR
        exact does_add32 (a := ((s.rounds k).d : UInt32)) (b := ((s.rounds k).h : UInt32)) (hT 25 rfl rfl) (hT 29 rfl rfl) ⟨Ext.refl _, rfl⟩
      · refine Ask.plain rfl rfl ?_
        intro aq wq hNq hO hR hT
        replace hR := (Ext.drew _).trans hR
        exact does_indexArr (k := .i64) (i := 3) (o' := 3) arr_54 ((hO 1 rfl).trans s1_34) (hT 23 rfl rfl) (by decide) (by decide) rfl ⟨Ext.refl _, rfl⟩
    intro a35 wd35 hN_35 hD_35 hO hR hA hU
    obtain ⟨_, _, _, _, _, _, _, t30, t31, _⟩ := hA
    have hE_35 := hE_34.trans hR
    have s1_35 := (hO 1 rfl).trans s1_34
    have s2_35 := (hO 2 rfl).trans s2_34
    have s4_35 := (hO 4 rfl).trans s4_34
    have s5_35 := (hO 5 rfl).trans s5_34
    have s8_35 := (hO 8 rfl).trans s8_34
    have s18_35 := (hO 18 rfl).trans s18_34
    have s19_35 := (hO 19 rfl).trans s19_34
    have hbb1_35 := hbb1_34.ext' hR
    have hbb2_35 := hbb2_34.ext' hR
    have s30_35 : get a35 30 = w32 (((s.rounds k).d : UInt32) + ((s.rounds k).h : UInt32)) := t30
    have s31_35 : get a35 31 = Value.pointer (some ⟨b1, 3, none⟩) := t31
    clear hE_34 hN_34 hD_34 s1_34 s2_34 s4_34 s5_34 s8_34 s18_34 s19_34 hbb1_34 hbb2_34
    refine tail_none rfl rfl (does_storeD (o := 3) (n := 1) (cs' := [w32 ((((s.rounds k).a : UInt32) + ((2654435769 : UInt32) * ((UInt32.ofNat k : UInt32) + (1 : UInt32) : UInt32) : UInt32) : UInt32) + ((s.rounds k).e : UInt32)), w32 (((s.rounds k).b : UInt32) + ((s.rounds k).f : UInt32)), w32 (((s.rounds k).c : UInt32) + ((s.rounds k).g : UInt32)), w32 (((s.rounds k).d : UInt32) + ((s.rounds k).h : UInt32)), w32 (rot (((s.rounds k).e : UInt32) ^^^ ((((s.rounds k).a : UInt32) + ((2654435769 : UInt32) * ((UInt32.ofNat k : UInt32) + (1 : UInt32) : UInt32) : UInt32) : UInt32) + ((s.rounds k).e : UInt32) : UInt32)) 7), w32 (rot (((s.rounds k).f : UInt32) ^^^ (((s.rounds k).b : UInt32) + ((s.rounds k).f : UInt32) : UInt32)) 9), w32 (rot (((s.rounds k).g : UInt32) ^^^ (((s.rounds k).c : UInt32) + ((s.rounds k).g : UInt32) : UInt32)) 13), w32 ((s.rounds k).h)]) (V := w32 (((s.rounds k).d : UInt32) + ((s.rounds k).h : UInt32))) s31_35 s30_35 hbb1_35 (Nat.le_of_ble_eq_true rfl) rfl siz_22 rfl rfl (fun wd36 hX hz hbb1_36 => ?_))
    have hE_36 := hE_35.since hX (fun k e => e ▸ fr_b1)
    have hbb2_36 := hbb2_35.ext hX ne_b1_b2.symm
    clear hX hz hE_35 hbb1_35 hbb2_35
    refine tail_nil ?_
    refine region_any [] [(32, Pr.ex (i64 ((3 : Nat) : Int))), (33, Pr.ex (i64 ((7 : Nat) : Int))), (34, Pr.ex (i64 ((3 : Nat) : Int))), (35, Pr.ex (i64 ((7 : Nat) : Int))), (36, Pr.ex (Value.pointer (some ⟨b1, 7, none⟩))), (37, Pr.ex (w32 ((s.rounds k).h))), (38, Pr.ex (i64 ((3 : Nat) : Int))), (39, Pr.ex (Value.pointer (some ⟨b1, 3, none⟩))), (40, Pr.ex (w32 (((s.rounds k).d : UInt32) + ((s.rounds k).h : UInt32)))), (41, Pr.ex (w32 (((s.rounds k).h : UInt32) ^^^ (((s.rounds k).d : UInt32) + ((s.rounds k).h : UInt32) : UInt32)))), (42, Pr.ex (i64 ((18 : Nat) : Int))), (43, Pr.ex (w32 (rot (((s.rounds k).h : UInt32) ^^^ (((s.rounds k).d : UInt32) + ((s.rounds k).h : UInt32) : UInt32)) 18))), (44, Pr.ex (Value.pointer (some ⟨b1, 7, none⟩)))] 13 mixed hN_35 hD_35 (by kernel_rfl) (by kernel_rfl) (by kernel_rfl) ?_ ?_
    · refine Asks.cons ?_ (Asks.cons ?_ (Asks.cons ?_ (Asks.cons ?_ (Asks.cons ?_ (Asks.cons ?_ (Asks.cons ?_ (Asks.cons ?_ (Asks.cons ?_ (Asks.cons ?_ (Asks.cons ?_ (Asks.cons ?_ (Asks.cons ?_ (Asks.zero _)))))))))))))
      · refine Ask.plain rfl rfl ?_
        intro aq wq hNq hO hR hT
        replace hR := (Ext.drew _).trans hR
        exact does_move (V := i64 ((3 : Nat) : Int)) ((hO 4 rfl).trans s4_35) ⟨Ext.refl _, rfl⟩
      · refine Ask.plain rfl rfl ?_
        intro aq wq hNq hO hR hT
        replace hR := (Ext.drew _).trans hR
        exact does_add (a := ((3 : Nat) : Int)) (b := ((4 : Nat) : Int)) (r := ((7 : Nat) : Int)) (hT 32 rfl rfl) rfl (by decide) (by decide) (by decide) ⟨Ext.refl _, rfl⟩
      · refine Ask.plain rfl rfl ?_
        intro aq wq hNq hO hR hT
        replace hR := (Ext.drew _).trans hR
        exact does_move (V := i64 ((3 : Nat) : Int)) ((hO 4 rfl).trans s4_35) ⟨Ext.refl _, rfl⟩
      · refine Ask.plain rfl rfl ?_
        intro aq wq hNq hO hR hT
        replace hR := (Ext.drew _).trans hR
        exact does_add (a := ((3 : Nat) : Int)) (b := ((4 : Nat) : Int)) (r := ((7 : Nat) : Int)) (hT 34 rfl rfl) rfl (by decide) (by decide) (by decide) ⟨Ext.refl _, rfl⟩
      · refine Ask.plain rfl rfl ?_
        intro aq wq hNq hO hR hT
        replace hR := (Ext.drew _).trans hR
        exact does_indexArr (k := .i64) (i := 7) (o' := 7) arr_54 ((hO 1 rfl).trans s1_35) (hT 35 rfl rfl) (by decide) (by decide) rfl ⟨Ext.refl _, rfl⟩
      · refine Ask.plain rfl rfl ?_
        intro aq wq hNq hO hR hT
        replace hR := (Ext.drew _).trans hR
        exact does_loadD1 (o := 7) (V := w32 ((s.rounds k).h)) (hT 36 rfl rfl) (hbb1_36.ext' hR) rfl one_22 ⟨Ext.refl _, rfl⟩
      · refine Ask.plain rfl rfl ?_
        intro aq wq hNq hO hR hT
        replace hR := (Ext.drew _).trans hR
        exact does_move (V := i64 ((3 : Nat) : Int)) ((hO 4 rfl).trans s4_35) ⟨Ext.refl _, rfl⟩
      · refine Ask.plain rfl rfl ?_
        intro aq wq hNq hO hR hT
        replace hR := (Ext.drew _).trans hR
        exact does_indexArr (k := .i64) (i := 3) (o' := 3) arr_54 ((hO 1 rfl).trans s1_35) (hT 38 rfl rfl) (by decide) (by decide) rfl ⟨Ext.refl _, rfl⟩
      · refine Ask.plain rfl rfl ?_
        intro aq wq hNq hO hR hT
        replace hR := (Ext.drew _).trans hR
        exact does_loadD1 (o := 3) (V := w32 (((s.rounds k).d : UInt32) + ((s.rounds k).h : UInt32))) (hT 39 rfl rfl) (hbb1_36.ext' hR) rfl one_22 ⟨Ext.refl _, rfl⟩
      · refine Ask.plain rfl rfl ?_
        intro aq wq hNq hO hR hT
        replace hR := (Ext.drew _).trans hR
        exact does_xor32 (a := ((s.rounds k).h : UInt32)) (b := (((s.rounds k).d : UInt32) + ((s.rounds k).h : UInt32) : UInt32)) (hT 37 rfl rfl) (hT 40 rfl rfl) ⟨Ext.refl _, rfl⟩
      · refine Ask.plain rfl rfl ?_
        intro aq wq hNq hO hR hT
        replace hR := (Ext.drew _).trans hR
        exact does_move (V := i64 ((18 : Nat) : Int)) ((hO 5 rfl).trans s5_35) ⟨Ext.refl _, rfl⟩
      · refine Ask.plain rfl rfl ?_
        intro aq wq hNq hO hR hT
        replace hR := (Ext.drew _).trans hR
        exact does_ret (vs := #[w32 (((s.rounds k).h : UInt32) ^^^ (((s.rounds k).d : UInt32) + ((s.rounds k).h : UInt32) : UInt32)), i64 ((18 : Nat) : Int)]) call_65 (args2 (hT 41 rfl rfl) (hT 42 rfl rfl)) rfl ((turn (((s.rounds k).h : UInt32) ^^^ (((s.rounds k).d : UInt32) + ((s.rounds k).h : UInt32) : UInt32)) (18) wq (by decide)).mono fun v w2 h => ⟨h.2, h.1⟩)
      · refine Ask.plain rfl rfl ?_
        intro aq wq hNq hO hR hT
        replace hR := (Ext.drew _).trans hR
        exact does_indexArr (k := .i64) (i := 7) (o' := 7) arr_54 ((hO 1 rfl).trans s1_35) (hT 33 rfl rfl) (by decide) (by decide) rfl ⟨Ext.refl _, rfl⟩
    intro a37 wd37 hN_37 hD_37 hO hR hA hU
    obtain ⟨_, _, _, _, _, _, _, _, _, _, _, t43, t44, _⟩ := hA
    have hE_37 := hE_36.trans hR
    have s1_37 := (hO 1 rfl).trans s1_35
    have s2_37 := (hO 2 rfl).trans s2_35
    have s8_37 := (hO 8 rfl).trans s8_35
    have s18_37 := (hO 18 rfl).trans s18_35
    have s19_37 := (hO 19 rfl).trans s19_35
    have hbb1_37 := hbb1_36.ext' hR
    have hbb2_37 := hbb2_36.ext' hR
    have s43_37 : get a37 43 = w32 (rot (((s.rounds k).h : UInt32) ^^^ (((s.rounds k).d : UInt32) + ((s.rounds k).h : UInt32) : UInt32)) 18) := t43
    have s44_37 : get a37 44 = Value.pointer (some ⟨b1, 7, none⟩) := t44
    clear hE_36 hN_35 hD_35 s1_35 s2_35 s4_35 s5_35 s8_35 s18_35 s19_35 s30_35 s31_35 hbb1_36 hbb2_36
    refine tail_none rfl rfl (does_storeD (o := 7) (n := 1) (cs' := [w32 ((((s.rounds k).a : UInt32) + ((2654435769 : UInt32) * ((UInt32.ofNat k : UInt32) + (1 : UInt32) : UInt32) : UInt32) : UInt32) + ((s.rounds k).e : UInt32)), w32 (((s.rounds k).b : UInt32) + ((s.rounds k).f : UInt32)), w32 (((s.rounds k).c : UInt32) + ((s.rounds k).g : UInt32)), w32 (((s.rounds k).d : UInt32) + ((s.rounds k).h : UInt32)), w32 (rot (((s.rounds k).e : UInt32) ^^^ ((((s.rounds k).a : UInt32) + ((2654435769 : UInt32) * ((UInt32.ofNat k : UInt32) + (1 : UInt32) : UInt32) : UInt32) : UInt32) + ((s.rounds k).e : UInt32) : UInt32)) 7), w32 (rot (((s.rounds k).f : UInt32) ^^^ (((s.rounds k).b : UInt32) + ((s.rounds k).f : UInt32) : UInt32)) 9), w32 (rot (((s.rounds k).g : UInt32) ^^^ (((s.rounds k).c : UInt32) + ((s.rounds k).g : UInt32) : UInt32)) 13), w32 (rot (((s.rounds k).h : UInt32) ^^^ (((s.rounds k).d : UInt32) + ((s.rounds k).h : UInt32) : UInt32)) 18)]) (V := w32 (rot (((s.rounds k).h : UInt32) ^^^ (((s.rounds k).d : UInt32) + ((s.rounds k).h : UInt32) : UInt32)) 18)) s44_37 s43_37 hbb1_37 (Nat.le_of_ble_eq_true rfl) rfl siz_22 rfl rfl (fun wd38 hX hz hbb1_38 => ?_))
    have hE_38 := hE_37.since hX (fun k e => e ▸ fr_b1)
    have hbb2_38 := hbb2_37.ext hX ne_b1_b2.symm
    clear hX hz hE_37 hbb1_37 hbb2_37
    refine tail_nil ?_
    refine region_lex [] [(45, Pr.ex (i64 ((4 : Nat) : Int)))] 1 hN_37 hD_37 (by kernel_rfl) (by kernel_rfl) ?_ ?_
    · refine Asks.cons ?_ (Asks.zero _)
      · refine Ask.plain rfl rfl ?_
        intro aq wq hNq hO hR hT
        exact does_add (a := ((3 : Nat) : Int)) (b := ((1 : Nat) : Int)) (r := ((4 : Nat) : Int)) ((hO 19 rfl).trans s19_37) rfl (by decide) (by decide) (by decide) ⟨Ext.refl _, rfl⟩
    intro a39 wd39 hN_39 hD_39 hO hR hA hU
    obtain ⟨t45, _⟩ := hA
    have hE_39 := hE_38.trans hR
    have s1_39 := (hO 1 rfl).trans s1_37
    have s2_39 := (hO 2 rfl).trans s2_37
    have s8_39 := (hO 8 rfl).trans s8_37
    have s18_39 := (hO 18 rfl).trans s18_37
    have s19_39 := (hO 19 rfl).trans s19_37
    have hbb1_39 := hbb1_38.ext' hR
    have hbb2_39 := hbb2_38.ext' hR
    have s45_39 : get a39 45 = i64 ((4 : Nat) : Int) := t45
    clear hE_38 hN_37 hD_37 s1_37 s2_37 s8_37 s18_37 s19_37 s43_37 s44_37 hbb1_38 hbb2_38
    refine tail_put rfl rfl hN_39 hD_39 (by decide) (does_move (V := i64 ((4 : Nat) : Int)) s45_39 (fun a40 hN_40 hD_40 hv hO => ?_))
    have s19_40 := hv
    have s1_40 := (hO 1 rfl).trans s1_39
    have s2_40 := (hO 2 rfl).trans s2_39
    have s8_40 := (hO 8 rfl).trans s8_39
    have s18_40 := (hO 18 rfl).trans s18_39
    clear hO hv hN_39 hD_39 s1_39 s2_39 s8_39 s18_39 s45_39 s19_39
    refine tail_nil ?_
    refine round_step ?_
    refine wp_seq ?_
    refine region_lex [] [(20, Pr.ex (Value.bool (false)))] 1 hN_40 hD_40 (by kernel_rfl) (by kernel_rfl) ?_ ?_
    · refine Asks.cons ?_ (Asks.zero _)
      · refine Ask.plain rfl rfl ?_
        intro aq wq hNq hO hR hT
        exact does_lss (a := ((4 : Nat) : Int)) (b := ((4 : Nat) : Int)) ((hO 19 rfl).trans s19_40) rfl ⟨Ext.refl _, rfl⟩
    intro a41 wd41 hN_41 hD_41 hO hR hA hU
    obtain ⟨t20, _⟩ := hA
    have hE_41 := hE_39.trans hR
    have s1_41 := (hO 1 rfl).trans s1_40
    have s2_41 := (hO 2 rfl).trans s2_40
    have s8_41 := (hO 8 rfl).trans s8_40
    have s18_41 := (hO 18 rfl).trans s18_40
    have s19_41 := (hO 19 rfl).trans s19_40
    have hbb1_41 := hbb1_39.ext' hR
    have hbb2_41 := hbb2_39.ext' hR
    have s20_41 : get a41 20 = Value.bool (false) := t20
    clear hE_39 hN_40 hD_40 s1_40 s2_40 s8_40 s18_40 s19_40 hbb1_39 hbb2_39
    refine tail_nil ?_
    refine wp_seq ?_
    refine wp_ifF s20_41 ?_
    refine wp_exit ?_
    refine wp_seq ?_
    refine region_lex [6] [(46, Pr.ex (Value.agg #[w32 ((((s.rounds k).a : UInt32) + ((2654435769 : UInt32) * ((UInt32.ofNat k : UInt32) + (1 : UInt32) : UInt32) : UInt32) : UInt32) + ((s.rounds k).e : UInt32)), w32 (((s.rounds k).b : UInt32) + ((s.rounds k).f : UInt32)), w32 (((s.rounds k).c : UInt32) + ((s.rounds k).g : UInt32)), w32 (((s.rounds k).d : UInt32) + ((s.rounds k).h : UInt32)), w32 (rot (((s.rounds k).e : UInt32) ^^^ ((((s.rounds k).a : UInt32) + ((2654435769 : UInt32) * ((UInt32.ofNat k : UInt32) + (1 : UInt32) : UInt32) : UInt32) : UInt32) + ((s.rounds k).e : UInt32) : UInt32)) 7), w32 (rot (((s.rounds k).f : UInt32) ^^^ (((s.rounds k).b : UInt32) + ((s.rounds k).f : UInt32) : UInt32)) 9), w32 (rot (((s.rounds k).g : UInt32) ^^^ (((s.rounds k).c : UInt32) + ((s.rounds k).g : UInt32) : UInt32)) 13), w32 (rot (((s.rounds k).h : UInt32) ^^^ (((s.rounds k).d : UInt32) + ((s.rounds k).h : UInt32) : UInt32)) 18)])), (6, Pr.box' wd41.heap.size 54 [w32 (0), w32 (0), w32 (0), w32 (0), w32 (0), w32 (0), w32 (0), w32 (0)])] 2 hN_41 hD_41 (by kernel_rfl) (by kernel_rfl) ?_ ?_
    · refine Asks.cons ?_ (Asks.cons ?_ (Asks.zero _))
      · refine Ask.plain rfl rfl ?_
        intro aq wq hNq hO hR hT
        exact does_loadD (o := 0) (n := 8) (mid := [w32 ((((s.rounds k).a : UInt32) + ((2654435769 : UInt32) * ((UInt32.ofNat k : UInt32) + (1 : UInt32) : UInt32) : UInt32) : UInt32) + ((s.rounds k).e : UInt32)), w32 (((s.rounds k).b : UInt32) + ((s.rounds k).f : UInt32)), w32 (((s.rounds k).c : UInt32) + ((s.rounds k).g : UInt32)), w32 (((s.rounds k).d : UInt32) + ((s.rounds k).h : UInt32)), w32 (rot (((s.rounds k).e : UInt32) ^^^ ((((s.rounds k).a : UInt32) + ((2654435769 : UInt32) * ((UInt32.ofNat k : UInt32) + (1 : UInt32) : UInt32) : UInt32) : UInt32) + ((s.rounds k).e : UInt32) : UInt32)) 7), w32 (rot (((s.rounds k).f : UInt32) ^^^ (((s.rounds k).b : UInt32) + ((s.rounds k).f : UInt32) : UInt32)) 9), w32 (rot (((s.rounds k).g : UInt32) ^^^ (((s.rounds k).c : UInt32) + ((s.rounds k).g : UInt32) : UInt32)) 13), w32 (rot (((s.rounds k).h : UInt32) ^^^ (((s.rounds k).d : UInt32) + ((s.rounds k).h : UInt32) : UInt32)) 18)]) ((hO 1 rfl).trans s1_41) (hbb1_41.ext' hR) rfl rfl (Nat.le_of_ble_eq_true rfl) row_54 rfl ⟨Ext.refl _, rfl⟩
      · refine Ask.fresh rfl rfl ?_
        intro aq wq hNq hO hR hT
        exact does_alloc zero_54 (fun b w2 he hlo hb => ⟨he, ⟨b, rfl, Nat.le_trans hR.size' hlo, hb⟩, ⟨b, rfl, hlo, hb.lt⟩⟩)
    intro a42 wd42 hN_42 hD_42 hO hR hA hU
    obtain ⟨t46, t6, _⟩ := hA
    have hE_42 := hE_41.trans hR
    have s1_42 := (hO 1 rfl).trans s1_41
    have s2_42 := (hO 2 rfl).trans s2_41
    have s8_42 := (hO 8 rfl).trans s8_41
    have hbb1_42 := hbb1_41.ext' hR
    have hbb2_42 := hbb2_41.ext' hR
    have s46_42 : get a42 46 = Value.agg #[w32 ((((s.rounds k).a : UInt32) + ((2654435769 : UInt32) * ((UInt32.ofNat k : UInt32) + (1 : UInt32) : UInt32) : UInt32) : UInt32) + ((s.rounds k).e : UInt32)), w32 (((s.rounds k).b : UInt32) + ((s.rounds k).f : UInt32)), w32 (((s.rounds k).c : UInt32) + ((s.rounds k).g : UInt32)), w32 (((s.rounds k).d : UInt32) + ((s.rounds k).h : UInt32)), w32 (rot (((s.rounds k).e : UInt32) ^^^ ((((s.rounds k).a : UInt32) + ((2654435769 : UInt32) * ((UInt32.ofNat k : UInt32) + (1 : UInt32) : UInt32) : UInt32) : UInt32) + ((s.rounds k).e : UInt32) : UInt32)) 7), w32 (rot (((s.rounds k).f : UInt32) ^^^ (((s.rounds k).b : UInt32) + ((s.rounds k).f : UInt32) : UInt32)) 9), w32 (rot (((s.rounds k).g : UInt32) ^^^ (((s.rounds k).c : UInt32) + ((s.rounds k).g : UInt32) : UInt32)) 13), w32 (rot (((s.rounds k).h : UInt32) ^^^ (((s.rounds k).d : UInt32) + ((s.rounds k).h : UInt32) : UInt32)) 18)] := t46
    obtain ⟨b6, s6_42, lo_b6, hbb6_42⟩ := t6
    have ne_b1_b6 : b1 ≠ b6 := fun e => Nat.lt_irrefl _ (Nat.lt_of_lt_of_le hbb1_41.lt (e ▸ lo_b6))
    have ne_b2_b6 : b2 ≠ b6 := fun e => Nat.lt_irrefl _ (Nat.lt_of_lt_of_le hbb2_41.lt (e ▸ lo_b6))
    have fr_b6 : w0.heap.size ≤ b6 := Nat.le_trans hE_41.size' lo_b6
    clear hE_41 hN_41 hD_41 s1_41 s2_41 s8_41 s18_41 s19_41 s20_41 hbb1_41 hbb2_41
    refine tail_none rfl rfl (does_storeD (o := 0) (n := 8) (cs' := [w32 ((((s.rounds k).a : UInt32) + ((2654435769 : UInt32) * ((UInt32.ofNat k : UInt32) + (1 : UInt32) : UInt32) : UInt32) : UInt32) + ((s.rounds k).e : UInt32)), w32 (((s.rounds k).b : UInt32) + ((s.rounds k).f : UInt32)), w32 (((s.rounds k).c : UInt32) + ((s.rounds k).g : UInt32)), w32 (((s.rounds k).d : UInt32) + ((s.rounds k).h : UInt32)), w32 (rot (((s.rounds k).e : UInt32) ^^^ ((((s.rounds k).a : UInt32) + ((2654435769 : UInt32) * ((UInt32.ofNat k : UInt32) + (1 : UInt32) : UInt32) : UInt32) : UInt32) + ((s.rounds k).e : UInt32) : UInt32)) 7), w32 (rot (((s.rounds k).f : UInt32) ^^^ (((s.rounds k).b : UInt32) + ((s.rounds k).f : UInt32) : UInt32)) 9), w32 (rot (((s.rounds k).g : UInt32) ^^^ (((s.rounds k).c : UInt32) + ((s.rounds k).g : UInt32) : UInt32)) 13), w32 (rot (((s.rounds k).h : UInt32) ^^^ (((s.rounds k).d : UInt32) + ((s.rounds k).h : UInt32) : UInt32)) 18)]) (V := Value.agg #[w32 ((((s.rounds k).a : UInt32) + ((2654435769 : UInt32) * ((UInt32.ofNat k : UInt32) + (1 : UInt32) : UInt32) : UInt32) : UInt32) + ((s.rounds k).e : UInt32)), w32 (((s.rounds k).b : UInt32) + ((s.rounds k).f : UInt32)), w32 (((s.rounds k).c : UInt32) + ((s.rounds k).g : UInt32)), w32 (((s.rounds k).d : UInt32) + ((s.rounds k).h : UInt32)), w32 (rot (((s.rounds k).e : UInt32) ^^^ ((((s.rounds k).a : UInt32) + ((2654435769 : UInt32) * ((UInt32.ofNat k : UInt32) + (1 : UInt32) : UInt32) : UInt32) : UInt32) + ((s.rounds k).e : UInt32) : UInt32)) 7), w32 (rot (((s.rounds k).f : UInt32) ^^^ (((s.rounds k).b : UInt32) + ((s.rounds k).f : UInt32) : UInt32)) 9), w32 (rot (((s.rounds k).g : UInt32) ^^^ (((s.rounds k).c : UInt32) + ((s.rounds k).g : UInt32) : UInt32)) 13), w32 (rot (((s.rounds k).h : UInt32) ^^^ (((s.rounds k).d : UInt32) + ((s.rounds k).h : UInt32) : UInt32)) 18)]) s6_42 s46_42 hbb6_42 (Nat.le_of_ble_eq_true rfl) rfl siz_54 rfl rfl (fun wd43 hX hz hbb6_43 => ?_))
    have hE_43 := hE_42.since hX (fun k e => e ▸ fr_b6)
    have hbb1_43 := hbb1_42.ext hX ne_b1_b6
    have hbb2_43 := hbb2_42.ext hX ne_b2_b6
    clear hX hz hE_42 hbb1_42 hbb2_42 hbb6_42
    refine tail_nil ?_
    refine wp_seq ?_
    refine region_lex [] [(47, Pr.ex (i64 ((0 : Nat) : Int)))] 1 hN_42 hD_42 (by kernel_rfl) (by kernel_rfl) ?_ ?_
    · refine Asks.cons ?_ (Asks.zero _)
      · refine Ask.plain rfl rfl ?_
        intro aq wq hNq hO hR hT
        exact does_move (V := i64 ((0 : Nat) : Int)) rfl ⟨Ext.refl _, rfl⟩
    intro a44 wd44 hN_44 hD_44 hO hR hA hU
    obtain ⟨t47, _⟩ := hA
    have hE_44 := hE_43.trans hR
    have s1_44 := (hO 1 rfl).trans s1_42
    have s2_44 := (hO 2 rfl).trans s2_42
    have s6_44 := (hO 6 rfl).trans s6_42
    have s8_44 := (hO 8 rfl).trans s8_42
    have hbb1_44 := hbb1_43.ext' hR
    have hbb2_44 := hbb2_43.ext' hR
    have hbb6_44 := hbb6_43.ext' hR
    have s47_44 : get a44 47 = i64 ((0 : Nat) : Int) := t47
    clear hE_43 hN_42 hD_42 s1_42 s2_42 s6_42 s8_42 s46_42 hbb1_43 hbb2_43 hbb6_43
    refine tail_nil ?_
    refine wp_block ?_
    refine loop_rounds 9 ?_
    refine round_step ?_
    refine wp_seq ?_
    refine region_lex [] [(48, Pr.ex (Value.bool (true)))] 1 hN_44 hD_44 (by kernel_rfl) (by kernel_rfl) ?_ ?_
    · refine Asks.cons ?_ (Asks.zero _)
      · refine Ask.plain rfl rfl ?_
        intro aq wq hNq hO hR hT
        exact does_lss (a := ((0 : Nat) : Int)) (b := ((8 : Nat) : Int)) ((hO 47 rfl).trans s47_44) rfl ⟨Ext.refl _, rfl⟩
    intro a45 wd45 hN_45 hD_45 hO hR hA hU
    obtain ⟨t48, _⟩ := hA
    have hE_45 := hE_44.trans hR
    have s1_45 := (hO 1 rfl).trans s1_44
    have s2_45 := (hO 2 rfl).trans s2_44
    have s6_45 := (hO 6 rfl).trans s6_44
    have s8_45 := (hO 8 rfl).trans s8_44
    have s47_45 := (hO 47 rfl).trans s47_44
    have hbb1_45 := hbb1_44.ext' hR
    have hbb2_45 := hbb2_44.ext' hR
    have hbb6_45 := hbb6_44.ext' hR
    have s48_45 : get a45 48 = Value.bool (true) := t48
    clear hE_44 hN_44 hD_44 s1_44 s2_44 s6_44 s8_44 s47_44 hbb1_44 hbb2_44 hbb6_44
    refine tail_nil ?_
    refine wp_seq ?_
    refine wp_ifT s48_45 ?_
    refine wp_skip ?_
    refine wp_seq ?_
    refine wp_block ?_
    refine wp_seq ?_
    refine region_lex [] [(49, Pr.ex (i64 ((0 : Nat) : Int))), (7, Pr.ex (i64 ((0 : Nat) : Int)))] 2 hN_45 hD_45 (by kernel_rfl) (by kernel_rfl) ?_ ?_
    · refine Asks.cons ?_ (Asks.cons ?_ (Asks.zero _))
      · refine Ask.plain rfl rfl ?_
        intro aq wq hNq hO hR hT
        exact does_move (V := i64 ((0 : Nat) : Int)) ((hO 47 rfl).trans s47_45) ⟨Ext.refl _, rfl⟩
      · refine Ask.plain rfl rfl ?_
        intro aq wq hNq hO hR hT
        exact does_assign (V := i64 ((0 : Nat) : Int)) (hT 49 rfl rfl) ⟨Ext.refl _, rfl⟩
    intro a46 wd46 hN_46 hD_46 hO hR hA hU
    obtain ⟨_, t7, _⟩ := hA
    have hE_46 := hE_45.trans hR
    have s1_46 := (hO 1 rfl).trans s1_45
    have s2_46 := (hO 2 rfl).trans s2_45
    have s6_46 := (hO 6 rfl).trans s6_45
    have s8_46 := (hO 8 rfl).trans s8_45
    have s47_46 := (hO 47 rfl).trans s47_45
    have hbb1_46 := hbb1_45.ext' hR
    have hbb2_46 := hbb2_45.ext' hR
    have hbb6_46 := hbb6_45.ext' hR
    have s7_46 : get a46 7 = i64 ((0 : Nat) : Int) := t7
    clear hE_45 hN_45 hD_45 s1_45 s2_45 s6_45 s8_45 s47_45 s48_45 hbb1_45 hbb2_45 hbb6_45
    refine tail_nil ?_
    refine region_lex [] [(50, Pr.ex (i64 ((0 : Nat) : Int))), (51, Pr.ex (i64 ((0 : Nat) : Int))), (52, Pr.ex (i64 ((3 : Nat) : Int))), (53, Pr.ex (i64 ((3 : Nat) : Int))), (54, Pr.ex (Value.pointer (some ⟨b6, 3, none⟩))), (55, Pr.ex (w32 (((s.rounds k).d : UInt32) + ((s.rounds k).h : UInt32)))), (56, Pr.ex (Value.pointer (some ⟨b1, 0, none⟩)))] 7 hN_46 hD_46 (by kernel_rfl) (by kernel_rfl) ?_ ?_
    · refine Asks.cons ?_ (Asks.cons ?_ (Asks.cons ?_ (Asks.cons ?_ (Asks.cons ?_ (Asks.cons ?_ (Asks.cons ?_ (Asks.zero _)))))))
      · refine Ask.plain rfl rfl ?_
        intro aq wq hNq hO hR hT
        exact does_move (V := i64 ((0 : Nat) : Int)) ((hO 7 rfl).trans s7_46) ⟨Ext.refl _, rfl⟩
      · refine Ask.plain rfl rfl ?_
        intro aq wq hNq hO hR hT
        exact does_move (V := i64 ((0 : Nat) : Int)) ((hO 7 rfl).trans s7_46) ⟨Ext.refl _, rfl⟩
      · refine Ask.plain rfl rfl ?_
        intro aq wq hNq hO hR hT
        exact does_add (a := ((0 : Nat) : Int)) (b := ((3 : Nat) : Int)) (r := ((3 : Nat) : Int)) (hT 51 rfl rfl) rfl (by decide) (by decide) (by decide) ⟨Ext.refl _, rfl⟩
      · refine Ask.plain rfl rfl ?_
        intro aq wq hNq hO hR hT
        exact does_rem (k := .i64) (a := ((3 : Nat) : Int)) (b := ((8 : Nat) : Int)) (r := ((3 : Nat) : Int)) (hT 52 rfl rfl) rfl (by decide) (by decide) (by decide) ⟨Ext.refl _, rfl⟩
      · refine Ask.plain rfl rfl ?_
        intro aq wq hNq hO hR hT
        exact does_indexArr (k := .i64) (i := 3) (o' := 3) arr_54 ((hO 6 rfl).trans s6_46) (hT 53 rfl rfl) (by decide) (by decide) rfl ⟨Ext.refl _, rfl⟩
      · refine Ask.plain rfl rfl ?_
        intro aq wq hNq hO hR hT
        exact does_loadD1 (o := 3) (V := w32 (((s.rounds k).d : UInt32) + ((s.rounds k).h : UInt32))) (hT 54 rfl rfl) (hbb6_46.ext' hR) rfl one_22 ⟨Ext.refl _, rfl⟩
      · refine Ask.plain rfl rfl ?_
        intro aq wq hNq hO hR hT
        exact does_indexArr (k := .i64) (i := 0) (o' := 0) arr_54 ((hO 1 rfl).trans s1_46) (hT 50 rfl rfl) (by decide) (by decide) rfl ⟨Ext.refl _, rfl⟩
    intro a47 wd47 hN_47 hD_47 hO hR hA hU
    obtain ⟨_, _, _, _, _, t55, t56, _⟩ := hA
    have hE_47 := hE_46.trans hR
    have s1_47 := (hO 1 rfl).trans s1_46
    have s2_47 := (hO 2 rfl).trans s2_46
    have s6_47 := (hO 6 rfl).trans s6_46
    have s8_47 := (hO 8 rfl).trans s8_46
    have s47_47 := (hO 47 rfl).trans s47_46
    have hbb1_47 := hbb1_46.ext' hR
    have hbb2_47 := hbb2_46.ext' hR
    have hbb6_47 := hbb6_46.ext' hR
    have s55_47 : get a47 55 = w32 (((s.rounds k).d : UInt32) + ((s.rounds k).h : UInt32)) := t55
    have s56_47 : get a47 56 = Value.pointer (some ⟨b1, 0, none⟩) := t56
    clear hE_46 hN_46 hD_46 s1_46 s2_46 s6_46 s7_46 s8_46 s47_46 hbb1_46 hbb2_46 hbb6_46
    refine tail_none rfl rfl (does_storeD (o := 0) (n := 1) (cs' := [w32 (((s.rounds k).d : UInt32) + ((s.rounds k).h : UInt32)), w32 (((s.rounds k).b : UInt32) + ((s.rounds k).f : UInt32)), w32 (((s.rounds k).c : UInt32) + ((s.rounds k).g : UInt32)), w32 (((s.rounds k).d : UInt32) + ((s.rounds k).h : UInt32)), w32 (rot (((s.rounds k).e : UInt32) ^^^ ((((s.rounds k).a : UInt32) + ((2654435769 : UInt32) * ((UInt32.ofNat k : UInt32) + (1 : UInt32) : UInt32) : UInt32) : UInt32) + ((s.rounds k).e : UInt32) : UInt32)) 7), w32 (rot (((s.rounds k).f : UInt32) ^^^ (((s.rounds k).b : UInt32) + ((s.rounds k).f : UInt32) : UInt32)) 9), w32 (rot (((s.rounds k).g : UInt32) ^^^ (((s.rounds k).c : UInt32) + ((s.rounds k).g : UInt32) : UInt32)) 13), w32 (rot (((s.rounds k).h : UInt32) ^^^ (((s.rounds k).d : UInt32) + ((s.rounds k).h : UInt32) : UInt32)) 18)]) (V := w32 (((s.rounds k).d : UInt32) + ((s.rounds k).h : UInt32))) s56_47 s55_47 hbb1_47 (Nat.le_of_ble_eq_true rfl) rfl siz_22 rfl rfl (fun wd48 hX hz hbb1_48 => ?_))
    have hE_48 := hE_47.since hX (fun k e => e ▸ fr_b1)
    have hbb2_48 := hbb2_47.ext hX ne_b1_b2.symm
    have hbb6_48 := hbb6_47.ext hX ne_b1_b6.symm
    clear hX hz hE_47 hbb1_47 hbb2_47 hbb6_47
    refine tail_nil ?_
    refine region_lex [] [(57, Pr.ex (i64 ((1 : Nat) : Int)))] 1 hN_47 hD_47 (by kernel_rfl) (by kernel_rfl) ?_ ?_
    · refine Asks.cons ?_ (Asks.zero _)
      · refine Ask.plain rfl rfl ?_
        intro aq wq hNq hO hR hT
        exact does_add (a := ((0 : Nat) : Int)) (b := ((1 : Nat) : Int)) (r := ((1 : Nat) : Int)) ((hO 47 rfl).trans s47_47) rfl (by decide) (by decide) (by decide) ⟨Ext.refl _, rfl⟩
    intro a49 wd49 hN_49 hD_49 hO hR hA hU
    obtain ⟨t57, _⟩ := hA
    have hE_49 := hE_48.trans hR
    have s1_49 := (hO 1 rfl).trans s1_47
    have s2_49 := (hO 2 rfl).trans s2_47
    have s6_49 := (hO 6 rfl).trans s6_47
    have s8_49 := (hO 8 rfl).trans s8_47
    have s47_49 := (hO 47 rfl).trans s47_47
    have hbb1_49 := hbb1_48.ext' hR
    have hbb2_49 := hbb2_48.ext' hR
    have hbb6_49 := hbb6_48.ext' hR
    have s57_49 : get a49 57 = i64 ((1 : Nat) : Int) := t57
    clear hE_48 hN_47 hD_47 s1_47 s2_47 s6_47 s8_47 s47_47 s55_47 s56_47 hbb1_48 hbb2_48 hbb6_48
    refine tail_put rfl rfl hN_49 hD_49 (by decide) (does_move (V := i64 ((1 : Nat) : Int)) s57_49 (fun a50 hN_50 hD_50 hv hO => ?_))
    have s47_50 := hv
    have s1_50 := (hO 1 rfl).trans s1_49
    have s2_50 := (hO 2 rfl).trans s2_49
    have s6_50 := (hO 6 rfl).trans s6_49
    have s8_50 := (hO 8 rfl).trans s8_49
    clear hO hv hN_49 hD_49 s1_49 s2_49 s6_49 s8_49 s57_49 s47_49
    refine tail_nil ?_
    refine round_step ?_
    refine wp_seq ?_
    refine region_lex [] [(48, Pr.ex (Value.bool (true)))] 1 hN_50 hD_50 (by kernel_rfl) (by kernel_rfl) ?_ ?_
    · refine Asks.cons ?_ (Asks.zero _)
      · refine Ask.plain rfl rfl ?_
        intro aq wq hNq hO hR hT
        exact does_lss (a := ((1 : Nat) : Int)) (b := ((8 : Nat) : Int)) ((hO 47 rfl).trans s47_50) rfl ⟨Ext.refl _, rfl⟩
    intro a51 wd51 hN_51 hD_51 hO hR hA hU
    obtain ⟨t48, _⟩ := hA
    have hE_51 := hE_49.trans hR
    have s1_51 := (hO 1 rfl).trans s1_50
    have s2_51 := (hO 2 rfl).trans s2_50
    have s6_51 := (hO 6 rfl).trans s6_50
    have s8_51 := (hO 8 rfl).trans s8_50
    have s47_51 := (hO 47 rfl).trans s47_50
    have hbb1_51 := hbb1_49.ext' hR
    have hbb2_51 := hbb2_49.ext' hR
    have hbb6_51 := hbb6_49.ext' hR
    have s48_51 : get a51 48 = Value.bool (true) := t48
    clear hE_49 hN_50 hD_50 s1_50 s2_50 s6_50 s8_50 s47_50 hbb1_49 hbb2_49 hbb6_49
    refine tail_nil ?_
    refine wp_seq ?_
    refine wp_ifT s48_51 ?_
    refine wp_skip ?_
    refine wp_seq ?_
    refine wp_block ?_
    refine wp_seq ?_
    refine region_lex [] [(49, Pr.ex (i64 ((1 : Nat) : Int))), (7, Pr.ex (i64 ((1 : Nat) : Int)))] 2 hN_51 hD_51 (by kernel_rfl) (by kernel_rfl) ?_ ?_
    · refine Asks.cons ?_ (Asks.cons ?_ (Asks.zero _))
      · refine Ask.plain rfl rfl ?_
        intro aq wq hNq hO hR hT
        exact does_move (V := i64 ((1 : Nat) : Int)) ((hO 47 rfl).trans s47_51) ⟨Ext.refl _, rfl⟩
      · refine Ask.plain rfl rfl ?_
        intro aq wq hNq hO hR hT
        exact does_assign (V := i64 ((1 : Nat) : Int)) (hT 49 rfl rfl) ⟨Ext.refl _, rfl⟩
    intro a52 wd52 hN_52 hD_52 hO hR hA hU
    obtain ⟨_, t7, _⟩ := hA
    have hE_52 := hE_51.trans hR
    have s1_52 := (hO 1 rfl).trans s1_51
    have s2_52 := (hO 2 rfl).trans s2_51
    have s6_52 := (hO 6 rfl).trans s6_51
    have s8_52 := (hO 8 rfl).trans s8_51
    have s47_52 := (hO 47 rfl).trans s47_51
    have hbb1_52 := hbb1_51.ext' hR
    have hbb2_52 := hbb2_51.ext' hR
    have hbb6_52 := hbb6_51.ext' hR
    have s7_52 : get a52 7 = i64 ((1 : Nat) : Int) := t7
    clear hE_51 hN_51 hD_51 s1_51 s2_51 s6_51 s8_51 s47_51 s48_51 hbb1_51 hbb2_51 hbb6_51
    refine tail_nil ?_
    refine region_lex [] [(50, Pr.ex (i64 ((1 : Nat) : Int))), (51, Pr.ex (i64 ((1 : Nat) : Int))), (52, Pr.ex (i64 ((4 : Nat) : Int))), (53, Pr.ex (i64 ((4 : Nat) : Int))), (54, Pr.ex (Value.pointer (some ⟨b6, 4, none⟩))), (55, Pr.ex (w32 (rot (((s.rounds k).e : UInt32) ^^^ ((((s.rounds k).a : UInt32) + ((2654435769 : UInt32) * ((UInt32.ofNat k : UInt32) + (1 : UInt32) : UInt32) : UInt32) : UInt32) + ((s.rounds k).e : UInt32) : UInt32)) 7))), (56, Pr.ex (Value.pointer (some ⟨b1, 1, none⟩)))] 7 hN_52 hD_52 (by kernel_rfl) (by kernel_rfl) ?_ ?_
    · refine Asks.cons ?_ (Asks.cons ?_ (Asks.cons ?_ (Asks.cons ?_ (Asks.cons ?_ (Asks.cons ?_ (Asks.cons ?_ (Asks.zero _)))))))
      · refine Ask.plain rfl rfl ?_
        intro aq wq hNq hO hR hT
        exact does_move (V := i64 ((1 : Nat) : Int)) ((hO 7 rfl).trans s7_52) ⟨Ext.refl _, rfl⟩
      · refine Ask.plain rfl rfl ?_
        intro aq wq hNq hO hR hT
        exact does_move (V := i64 ((1 : Nat) : Int)) ((hO 7 rfl).trans s7_52) ⟨Ext.refl _, rfl⟩
      · refine Ask.plain rfl rfl ?_
        intro aq wq hNq hO hR hT
        exact does_add (a := ((1 : Nat) : Int)) (b := ((3 : Nat) : Int)) (r := ((4 : Nat) : Int)) (hT 51 rfl rfl) rfl (by decide) (by decide) (by decide) ⟨Ext.refl _, rfl⟩
      · refine Ask.plain rfl rfl ?_
        intro aq wq hNq hO hR hT
        exact does_rem (k := .i64) (a := ((4 : Nat) : Int)) (b := ((8 : Nat) : Int)) (r := ((4 : Nat) : Int)) (hT 52 rfl rfl) rfl (by decide) (by decide) (by decide) ⟨Ext.refl _, rfl⟩
      · refine Ask.plain rfl rfl ?_
        intro aq wq hNq hO hR hT
        exact does_indexArr (k := .i64) (i := 4) (o' := 4) arr_54 ((hO 6 rfl).trans s6_52) (hT 53 rfl rfl) (by decide) (by decide) rfl ⟨Ext.refl _, rfl⟩
      · refine Ask.plain rfl rfl ?_
        intro aq wq hNq hO hR hT
        exact does_loadD1 (o := 4) (V := w32 (rot (((s.rounds k).e : UInt32) ^^^ ((((s.rounds k).a : UInt32) + ((2654435769 : UInt32) * ((UInt32.ofNat k : UInt32) + (1 : UInt32) : UInt32) : UInt32) : UInt32) + ((s.rounds k).e : UInt32) : UInt32)) 7)) (hT 54 rfl rfl) (hbb6_52.ext' hR) rfl one_22 ⟨Ext.refl _, rfl⟩
      · refine Ask.plain rfl rfl ?_
        intro aq wq hNq hO hR hT
        exact does_indexArr (k := .i64) (i := 1) (o' := 1) arr_54 ((hO 1 rfl).trans s1_52) (hT 50 rfl rfl) (by decide) (by decide) rfl ⟨Ext.refl _, rfl⟩
    intro a53 wd53 hN_53 hD_53 hO hR hA hU
    obtain ⟨_, _, _, _, _, t55, t56, _⟩ := hA
    have hE_53 := hE_52.trans hR
    have s1_53 := (hO 1 rfl).trans s1_52
    have s2_53 := (hO 2 rfl).trans s2_52
    have s6_53 := (hO 6 rfl).trans s6_52
    have s8_53 := (hO 8 rfl).trans s8_52
    have s47_53 := (hO 47 rfl).trans s47_52
    have hbb1_53 := hbb1_52.ext' hR
    have hbb2_53 := hbb2_52.ext' hR
    have hbb6_53 := hbb6_52.ext' hR
    have s55_53 : get a53 55 = w32 (rot (((s.rounds k).e : UInt32) ^^^ ((((s.rounds k).a : UInt32) + ((2654435769 : UInt32) * ((UInt32.ofNat k : UInt32) + (1 : UInt32) : UInt32) : UInt32) : UInt32) + ((s.rounds k).e : UInt32) : UInt32)) 7) := t55
    have s56_53 : get a53 56 = Value.pointer (some ⟨b1, 1, none⟩) := t56
    clear hE_52 hN_52 hD_52 s1_52 s2_52 s6_52 s7_52 s8_52 s47_52 hbb1_52 hbb2_52 hbb6_52
    refine tail_none rfl rfl (does_storeD (o := 1) (n := 1) (cs' := [w32 (((s.rounds k).d : UInt32) + ((s.rounds k).h : UInt32)), w32 (rot (((s.rounds k).e : UInt32) ^^^ ((((s.rounds k).a : UInt32) + ((2654435769 : UInt32) * ((UInt32.ofNat k : UInt32) + (1 : UInt32) : UInt32) : UInt32) : UInt32) + ((s.rounds k).e : UInt32) : UInt32)) 7), w32 (((s.rounds k).c : UInt32) + ((s.rounds k).g : UInt32)), w32 (((s.rounds k).d : UInt32) + ((s.rounds k).h : UInt32)), w32 (rot (((s.rounds k).e : UInt32) ^^^ ((((s.rounds k).a : UInt32) + ((2654435769 : UInt32) * ((UInt32.ofNat k : UInt32) + (1 : UInt32) : UInt32) : UInt32) : UInt32) + ((s.rounds k).e : UInt32) : UInt32)) 7), w32 (rot (((s.rounds k).f : UInt32) ^^^ (((s.rounds k).b : UInt32) + ((s.rounds k).f : UInt32) : UInt32)) 9), w32 (rot (((s.rounds k).g : UInt32) ^^^ (((s.rounds k).c : UInt32) + ((s.rounds k).g : UInt32) : UInt32)) 13), w32 (rot (((s.rounds k).h : UInt32) ^^^ (((s.rounds k).d : UInt32) + ((s.rounds k).h : UInt32) : UInt32)) 18)]) (V := w32 (rot (((s.rounds k).e : UInt32) ^^^ ((((s.rounds k).a : UInt32) + ((2654435769 : UInt32) * ((UInt32.ofNat k : UInt32) + (1 : UInt32) : UInt32) : UInt32) : UInt32) + ((s.rounds k).e : UInt32) : UInt32)) 7)) s56_53 s55_53 hbb1_53 (Nat.le_of_ble_eq_true rfl) rfl siz_22 rfl rfl (fun wd54 hX hz hbb1_54 => ?_))
    have hE_54 := hE_53.since hX (fun k e => e ▸ fr_b1)
    have hbb2_54 := hbb2_53.ext hX ne_b1_b2.symm
    have hbb6_54 := hbb6_53.ext hX ne_b1_b6.symm
    clear hX hz hE_53 hbb1_53 hbb2_53 hbb6_53
    refine tail_nil ?_
    refine region_lex [] [(57, Pr.ex (i64 ((2 : Nat) : Int)))] 1 hN_53 hD_53 (by kernel_rfl) (by kernel_rfl) ?_ ?_
    · refine Asks.cons ?_ (Asks.zero _)
      · refine Ask.plain rfl rfl ?_
        intro aq wq hNq hO hR hT
        exact does_add (a := ((1 : Nat) : Int)) (b := ((1 : Nat) : Int)) (r := ((2 : Nat) : Int)) ((hO 47 rfl).trans s47_53) rfl (by decide) (by decide) (by decide) ⟨Ext.refl _, rfl⟩
    intro a55 wd55 hN_55 hD_55 hO hR hA hU
    obtain ⟨t57, _⟩ := hA
    have hE_55 := hE_54.trans hR
    have s1_55 := (hO 1 rfl).trans s1_53
    have s2_55 := (hO 2 rfl).trans s2_53
    have s6_55 := (hO 6 rfl).trans s6_53
    have s8_55 := (hO 8 rfl).trans s8_53
    have s47_55 := (hO 47 rfl).trans s47_53
    have hbb1_55 := hbb1_54.ext' hR
    have hbb2_55 := hbb2_54.ext' hR
    have hbb6_55 := hbb6_54.ext' hR
    have s57_55 : get a55 57 = i64 ((2 : Nat) : Int) := t57
    clear hE_54 hN_53 hD_53 s1_53 s2_53 s6_53 s8_53 s47_53 s55_53 s56_53 hbb1_54 hbb2_54 hbb6_54
    refine tail_put rfl rfl hN_55 hD_55 (by decide) (does_move (V := i64 ((2 : Nat) : Int)) s57_55 (fun a56 hN_56 hD_56 hv hO => ?_))
    have s47_56 := hv
    have s1_56 := (hO 1 rfl).trans s1_55
    have s2_56 := (hO 2 rfl).trans s2_55
    have s6_56 := (hO 6 rfl).trans s6_55
    have s8_56 := (hO 8 rfl).trans s8_55
    clear hO hv hN_55 hD_55 s1_55 s2_55 s6_55 s8_55 s57_55 s47_55
    refine tail_nil ?_
    refine round_step ?_
    refine wp_seq ?_
    refine region_lex [] [(48, Pr.ex (Value.bool (true)))] 1 hN_56 hD_56 (by kernel_rfl) (by kernel_rfl) ?_ ?_
    · refine Asks.cons ?_ (Asks.zero _)
      · refine Ask.plain rfl rfl ?_
        intro aq wq hNq hO hR hT
        exact does_lss (a := ((2 : Nat) : Int)) (b := ((8 : Nat) : Int)) ((hO 47 rfl).trans s47_56) rfl ⟨Ext.refl _, rfl⟩
    intro a57 wd57 hN_57 hD_57 hO hR hA hU
    obtain ⟨t48, _⟩ := hA
    have hE_57 := hE_55.trans hR
    have s1_57 := (hO 1 rfl).trans s1_56
    have s2_57 := (hO 2 rfl).trans s2_56
    have s6_57 := (hO 6 rfl).trans s6_56
    have s8_57 := (hO 8 rfl).trans s8_56
    have s47_57 := (hO 47 rfl).trans s47_56
    have hbb1_57 := hbb1_55.ext' hR
    have hbb2_57 := hbb2_55.ext' hR
    have hbb6_57 := hbb6_55.ext' hR
    have s48_57 : get a57 48 = Value.bool (true) := t48
    clear hE_55 hN_56 hD_56 s1_56 s2_56 s6_56 s8_56 s47_56 hbb1_55 hbb2_55 hbb6_55
    refine tail_nil ?_
    refine wp_seq ?_
    refine wp_ifT s48_57 ?_
    refine wp_skip ?_
    refine wp_seq ?_
    refine wp_block ?_
    refine wp_seq ?_
    refine region_lex [] [(49, Pr.ex (i64 ((2 : Nat) : Int))), (7, Pr.ex (i64 ((2 : Nat) : Int)))] 2 hN_57 hD_57 (by kernel_rfl) (by kernel_rfl) ?_ ?_
    · refine Asks.cons ?_ (Asks.cons ?_ (Asks.zero _))
      · refine Ask.plain rfl rfl ?_
        intro aq wq hNq hO hR hT
        exact does_move (V := i64 ((2 : Nat) : Int)) ((hO 47 rfl).trans s47_57) ⟨Ext.refl _, rfl⟩
      · refine Ask.plain rfl rfl ?_
        intro aq wq hNq hO hR hT
        exact does_assign (V := i64 ((2 : Nat) : Int)) (hT 49 rfl rfl) ⟨Ext.refl _, rfl⟩
    intro a58 wd58 hN_58 hD_58 hO hR hA hU
    obtain ⟨_, t7, _⟩ := hA
    have hE_58 := hE_57.trans hR
    have s1_58 := (hO 1 rfl).trans s1_57
    have s2_58 := (hO 2 rfl).trans s2_57
    have s6_58 := (hO 6 rfl).trans s6_57
    have s8_58 := (hO 8 rfl).trans s8_57
    have s47_58 := (hO 47 rfl).trans s47_57
    have hbb1_58 := hbb1_57.ext' hR
    have hbb2_58 := hbb2_57.ext' hR
    have hbb6_58 := hbb6_57.ext' hR
    have s7_58 : get a58 7 = i64 ((2 : Nat) : Int) := t7
    clear hE_57 hN_57 hD_57 s1_57 s2_57 s6_57 s8_57 s47_57 s48_57 hbb1_57 hbb2_57 hbb6_57
    refine tail_nil ?_
    refine region_lex [] [(50, Pr.ex (i64 ((2 : Nat) : Int))), (51, Pr.ex (i64 ((2 : Nat) : Int))), (52, Pr.ex (i64 ((5 : Nat) : Int))), (53, Pr.ex (i64 ((5 : Nat) : Int))), (54, Pr.ex (Value.pointer (some ⟨b6, 5, none⟩))), (55, Pr.ex (w32 (rot (((s.rounds k).f : UInt32) ^^^ (((s.rounds k).b : UInt32) + ((s.rounds k).f : UInt32) : UInt32)) 9))), (56, Pr.ex (Value.pointer (some ⟨b1, 2, none⟩)))] 7 hN_58 hD_58 (by kernel_rfl) (by kernel_rfl) ?_ ?_
    · refine Asks.cons ?_ (Asks.cons ?_ (Asks.cons ?_ (Asks.cons ?_ (Asks.cons ?_ (Asks.cons ?_ (Asks.cons ?_ (Asks.zero _)))))))
      · refine Ask.plain rfl rfl ?_
        intro aq wq hNq hO hR hT
        exact does_move (V := i64 ((2 : Nat) : Int)) ((hO 7 rfl).trans s7_58) ⟨Ext.refl _, rfl⟩
      · refine Ask.plain rfl rfl ?_
        intro aq wq hNq hO hR hT
        exact does_move (V := i64 ((2 : Nat) : Int)) ((hO 7 rfl).trans s7_58) ⟨Ext.refl _, rfl⟩
      · refine Ask.plain rfl rfl ?_
        intro aq wq hNq hO hR hT
        exact does_add (a := ((2 : Nat) : Int)) (b := ((3 : Nat) : Int)) (r := ((5 : Nat) : Int)) (hT 51 rfl rfl) rfl (by decide) (by decide) (by decide) ⟨Ext.refl _, rfl⟩
      · refine Ask.plain rfl rfl ?_
        intro aq wq hNq hO hR hT
        exact does_rem (k := .i64) (a := ((5 : Nat) : Int)) (b := ((8 : Nat) : Int)) (r := ((5 : Nat) : Int)) (hT 52 rfl rfl) rfl (by decide) (by decide) (by decide) ⟨Ext.refl _, rfl⟩
      · refine Ask.plain rfl rfl ?_
        intro aq wq hNq hO hR hT
        exact does_indexArr (k := .i64) (i := 5) (o' := 5) arr_54 ((hO 6 rfl).trans s6_58) (hT 53 rfl rfl) (by decide) (by decide) rfl ⟨Ext.refl _, rfl⟩
      · refine Ask.plain rfl rfl ?_
        intro aq wq hNq hO hR hT
        exact does_loadD1 (o := 5) (V := w32 (rot (((s.rounds k).f : UInt32) ^^^ (((s.rounds k).b : UInt32) + ((s.rounds k).f : UInt32) : UInt32)) 9)) (hT 54 rfl rfl) (hbb6_58.ext' hR) rfl one_22 ⟨Ext.refl _, rfl⟩
      · refine Ask.plain rfl rfl ?_
        intro aq wq hNq hO hR hT
        exact does_indexArr (k := .i64) (i := 2) (o' := 2) arr_54 ((hO 1 rfl).trans s1_58) (hT 50 rfl rfl) (by decide) (by decide) rfl ⟨Ext.refl _, rfl⟩
    intro a59 wd59 hN_59 hD_59 hO hR hA hU
    obtain ⟨_, _, _, _, _, t55, t56, _⟩ := hA
    have hE_59 := hE_58.trans hR
    have s1_59 := (hO 1 rfl).trans s1_58
    have s2_59 := (hO 2 rfl).trans s2_58
    have s6_59 := (hO 6 rfl).trans s6_58
    have s8_59 := (hO 8 rfl).trans s8_58
    have s47_59 := (hO 47 rfl).trans s47_58
    have hbb1_59 := hbb1_58.ext' hR
    have hbb2_59 := hbb2_58.ext' hR
    have hbb6_59 := hbb6_58.ext' hR
    have s55_59 : get a59 55 = w32 (rot (((s.rounds k).f : UInt32) ^^^ (((s.rounds k).b : UInt32) + ((s.rounds k).f : UInt32) : UInt32)) 9) := t55
    have s56_59 : get a59 56 = Value.pointer (some ⟨b1, 2, none⟩) := t56
    clear hE_58 hN_58 hD_58 s1_58 s2_58 s6_58 s7_58 s8_58 s47_58 hbb1_58 hbb2_58 hbb6_58
    refine tail_none rfl rfl (does_storeD (o := 2) (n := 1) (cs' := [w32 (((s.rounds k).d : UInt32) + ((s.rounds k).h : UInt32)), w32 (rot (((s.rounds k).e : UInt32) ^^^ ((((s.rounds k).a : UInt32) + ((2654435769 : UInt32) * ((UInt32.ofNat k : UInt32) + (1 : UInt32) : UInt32) : UInt32) : UInt32) + ((s.rounds k).e : UInt32) : UInt32)) 7), w32 (rot (((s.rounds k).f : UInt32) ^^^ (((s.rounds k).b : UInt32) + ((s.rounds k).f : UInt32) : UInt32)) 9), w32 (((s.rounds k).d : UInt32) + ((s.rounds k).h : UInt32)), w32 (rot (((s.rounds k).e : UInt32) ^^^ ((((s.rounds k).a : UInt32) + ((2654435769 : UInt32) * ((UInt32.ofNat k : UInt32) + (1 : UInt32) : UInt32) : UInt32) : UInt32) + ((s.rounds k).e : UInt32) : UInt32)) 7), w32 (rot (((s.rounds k).f : UInt32) ^^^ (((s.rounds k).b : UInt32) + ((s.rounds k).f : UInt32) : UInt32)) 9), w32 (rot (((s.rounds k).g : UInt32) ^^^ (((s.rounds k).c : UInt32) + ((s.rounds k).g : UInt32) : UInt32)) 13), w32 (rot (((s.rounds k).h : UInt32) ^^^ (((s.rounds k).d : UInt32) + ((s.rounds k).h : UInt32) : UInt32)) 18)]) (V := w32 (rot (((s.rounds k).f : UInt32) ^^^ (((s.rounds k).b : UInt32) + ((s.rounds k).f : UInt32) : UInt32)) 9)) s56_59 s55_59 hbb1_59 (Nat.le_of_ble_eq_true rfl) rfl siz_22 rfl rfl (fun wd60 hX hz hbb1_60 => ?_))
    have hE_60 := hE_59.since hX (fun k e => e ▸ fr_b1)
    have hbb2_60 := hbb2_59.ext hX ne_b1_b2.symm
    have hbb6_60 := hbb6_59.ext hX ne_b1_b6.symm
    clear hX hz hE_59 hbb1_59 hbb2_59 hbb6_59
    refine tail_nil ?_
    refine region_lex [] [(57, Pr.ex (i64 ((3 : Nat) : Int)))] 1 hN_59 hD_59 (by kernel_rfl) (by kernel_rfl) ?_ ?_
    · refine Asks.cons ?_ (Asks.zero _)
      · refine Ask.plain rfl rfl ?_
        intro aq wq hNq hO hR hT
        exact does_add (a := ((2 : Nat) : Int)) (b := ((1 : Nat) : Int)) (r := ((3 : Nat) : Int)) ((hO 47 rfl).trans s47_59) rfl (by decide) (by decide) (by decide) ⟨Ext.refl _, rfl⟩
    intro a61 wd61 hN_61 hD_61 hO hR hA hU
    obtain ⟨t57, _⟩ := hA
    have hE_61 := hE_60.trans hR
    have s1_61 := (hO 1 rfl).trans s1_59
    have s2_61 := (hO 2 rfl).trans s2_59
    have s6_61 := (hO 6 rfl).trans s6_59
    have s8_61 := (hO 8 rfl).trans s8_59
    have s47_61 := (hO 47 rfl).trans s47_59
    have hbb1_61 := hbb1_60.ext' hR
    have hbb2_61 := hbb2_60.ext' hR
    have hbb6_61 := hbb6_60.ext' hR
    have s57_61 : get a61 57 = i64 ((3 : Nat) : Int) := t57
    clear hE_60 hN_59 hD_59 s1_59 s2_59 s6_59 s8_59 s47_59 s55_59 s56_59 hbb1_60 hbb2_60 hbb6_60
    refine tail_put rfl rfl hN_61 hD_61 (by decide) (does_move (V := i64 ((3 : Nat) : Int)) s57_61 (fun a62 hN_62 hD_62 hv hO => ?_))
    have s47_62 := hv
    have s1_62 := (hO 1 rfl).trans s1_61
    have s2_62 := (hO 2 rfl).trans s2_61
    have s6_62 := (hO 6 rfl).trans s6_61
    have s8_62 := (hO 8 rfl).trans s8_61
    clear hO hv hN_61 hD_61 s1_61 s2_61 s6_61 s8_61 s57_61 s47_61
    refine tail_nil ?_
    refine round_step ?_
    refine wp_seq ?_
    refine region_lex [] [(48, Pr.ex (Value.bool (true)))] 1 hN_62 hD_62 (by kernel_rfl) (by kernel_rfl) ?_ ?_
    · refine Asks.cons ?_ (Asks.zero _)
      · refine Ask.plain rfl rfl ?_
        intro aq wq hNq hO hR hT
        exact does_lss (a := ((3 : Nat) : Int)) (b := ((8 : Nat) : Int)) ((hO 47 rfl).trans s47_62) rfl ⟨Ext.refl _, rfl⟩
    intro a63 wd63 hN_63 hD_63 hO hR hA hU
    obtain ⟨t48, _⟩ := hA
    have hE_63 := hE_61.trans hR
    have s1_63 := (hO 1 rfl).trans s1_62
    have s2_63 := (hO 2 rfl).trans s2_62
    have s6_63 := (hO 6 rfl).trans s6_62
    have s8_63 := (hO 8 rfl).trans s8_62
    have s47_63 := (hO 47 rfl).trans s47_62
    have hbb1_63 := hbb1_61.ext' hR
    have hbb2_63 := hbb2_61.ext' hR
    have hbb6_63 := hbb6_61.ext' hR
    have s48_63 : get a63 48 = Value.bool (true) := t48
    clear hE_61 hN_62 hD_62 s1_62 s2_62 s6_62 s8_62 s47_62 hbb1_61 hbb2_61 hbb6_61
    refine tail_nil ?_
    refine wp_seq ?_
    refine wp_ifT s48_63 ?_
    refine wp_skip ?_
    refine wp_seq ?_
    refine wp_block ?_
    refine wp_seq ?_
    refine region_lex [] [(49, Pr.ex (i64 ((3 : Nat) : Int))), (7, Pr.ex (i64 ((3 : Nat) : Int)))] 2 hN_63 hD_63 (by kernel_rfl) (by kernel_rfl) ?_ ?_
    · refine Asks.cons ?_ (Asks.cons ?_ (Asks.zero _))
      · refine Ask.plain rfl rfl ?_
        intro aq wq hNq hO hR hT
        exact does_move (V := i64 ((3 : Nat) : Int)) ((hO 47 rfl).trans s47_63) ⟨Ext.refl _, rfl⟩
      · refine Ask.plain rfl rfl ?_
        intro aq wq hNq hO hR hT
        exact does_assign (V := i64 ((3 : Nat) : Int)) (hT 49 rfl rfl) ⟨Ext.refl _, rfl⟩
    intro a64 wd64 hN_64 hD_64 hO hR hA hU
    obtain ⟨_, t7, _⟩ := hA
    have hE_64 := hE_63.trans hR
    have s1_64 := (hO 1 rfl).trans s1_63
    have s2_64 := (hO 2 rfl).trans s2_63
    have s6_64 := (hO 6 rfl).trans s6_63
    have s8_64 := (hO 8 rfl).trans s8_63
    have s47_64 := (hO 47 rfl).trans s47_63
    have hbb1_64 := hbb1_63.ext' hR
    have hbb2_64 := hbb2_63.ext' hR
    have hbb6_64 := hbb6_63.ext' hR
    have s7_64 : get a64 7 = i64 ((3 : Nat) : Int) := t7
    clear hE_63 hN_63 hD_63 s1_63 s2_63 s6_63 s8_63 s47_63 s48_63 hbb1_63 hbb2_63 hbb6_63
    refine tail_nil ?_
    refine region_lex [] [(50, Pr.ex (i64 ((3 : Nat) : Int))), (51, Pr.ex (i64 ((3 : Nat) : Int))), (52, Pr.ex (i64 ((6 : Nat) : Int))), (53, Pr.ex (i64 ((6 : Nat) : Int))), (54, Pr.ex (Value.pointer (some ⟨b6, 6, none⟩))), (55, Pr.ex (w32 (rot (((s.rounds k).g : UInt32) ^^^ (((s.rounds k).c : UInt32) + ((s.rounds k).g : UInt32) : UInt32)) 13))), (56, Pr.ex (Value.pointer (some ⟨b1, 3, none⟩)))] 7 hN_64 hD_64 (by kernel_rfl) (by kernel_rfl) ?_ ?_
    · refine Asks.cons ?_ (Asks.cons ?_ (Asks.cons ?_ (Asks.cons ?_ (Asks.cons ?_ (Asks.cons ?_ (Asks.cons ?_ (Asks.zero _)))))))
      · refine Ask.plain rfl rfl ?_
        intro aq wq hNq hO hR hT
        exact does_move (V := i64 ((3 : Nat) : Int)) ((hO 7 rfl).trans s7_64) ⟨Ext.refl _, rfl⟩
      · refine Ask.plain rfl rfl ?_
        intro aq wq hNq hO hR hT
        exact does_move (V := i64 ((3 : Nat) : Int)) ((hO 7 rfl).trans s7_64) ⟨Ext.refl _, rfl⟩
      · refine Ask.plain rfl rfl ?_
        intro aq wq hNq hO hR hT
        exact does_add (a := ((3 : Nat) : Int)) (b := ((3 : Nat) : Int)) (r := ((6 : Nat) : Int)) (hT 51 rfl rfl) rfl (by decide) (by decide) (by decide) ⟨Ext.refl _, rfl⟩
      · refine Ask.plain rfl rfl ?_
        intro aq wq hNq hO hR hT
        exact does_rem (k := .i64) (a := ((6 : Nat) : Int)) (b := ((8 : Nat) : Int)) (r := ((6 : Nat) : Int)) (hT 52 rfl rfl) rfl (by decide) (by decide) (by decide) ⟨Ext.refl _, rfl⟩
      · refine Ask.plain rfl rfl ?_
        intro aq wq hNq hO hR hT
        exact does_indexArr (k := .i64) (i := 6) (o' := 6) arr_54 ((hO 6 rfl).trans s6_64) (hT 53 rfl rfl) (by decide) (by decide) rfl ⟨Ext.refl _, rfl⟩
      · refine Ask.plain rfl rfl ?_
        intro aq wq hNq hO hR hT
        exact does_loadD1 (o := 6) (V := w32 (rot (((s.rounds k).g : UInt32) ^^^ (((s.rounds k).c : UInt32) + ((s.rounds k).g : UInt32) : UInt32)) 13)) (hT 54 rfl rfl) (hbb6_64.ext' hR) rfl one_22 ⟨Ext.refl _, rfl⟩
      · refine Ask.plain rfl rfl ?_
        intro aq wq hNq hO hR hT
        exact does_indexArr (k := .i64) (i := 3) (o' := 3) arr_54 ((hO 1 rfl).trans s1_64) (hT 50 rfl rfl) (by decide) (by decide) rfl ⟨Ext.refl _, rfl⟩
    intro a65 wd65 hN_65 hD_65 hO hR hA hU
    obtain ⟨_, _, _, _, _, t55, t56, _⟩ := hA
    have hE_65 := hE_64.trans hR
    have s1_65 := (hO 1 rfl).trans s1_64
    have s2_65 := (hO 2 rfl).trans s2_64
    have s6_65 := (hO 6 rfl).trans s6_64
    have s8_65 := (hO 8 rfl).trans s8_64
    have s47_65 := (hO 47 rfl).trans s47_64
    have hbb1_65 := hbb1_64.ext' hR
    have hbb2_65 := hbb2_64.ext' hR
    have hbb6_65 := hbb6_64.ext' hR
    have s55_65 : get a65 55 = w32 (rot (((s.rounds k).g : UInt32) ^^^ (((s.rounds k).c : UInt32) + ((s.rounds k).g : UInt32) : UInt32)) 13) := t55
    have s56_65 : get a65 56 = Value.pointer (some ⟨b1, 3, none⟩) := t56
    clear hE_64 hN_64 hD_64 s1_64 s2_64 s6_64 s7_64 s8_64 s47_64 hbb1_64 hbb2_64 hbb6_64
    refine tail_none rfl rfl (does_storeD (o := 3) (n := 1) (cs' := [w32 (((s.rounds k).d : UInt32) + ((s.rounds k).h : UInt32)), w32 (rot (((s.rounds k).e : UInt32) ^^^ ((((s.rounds k).a : UInt32) + ((2654435769 : UInt32) * ((UInt32.ofNat k : UInt32) + (1 : UInt32) : UInt32) : UInt32) : UInt32) + ((s.rounds k).e : UInt32) : UInt32)) 7), w32 (rot (((s.rounds k).f : UInt32) ^^^ (((s.rounds k).b : UInt32) + ((s.rounds k).f : UInt32) : UInt32)) 9), w32 (rot (((s.rounds k).g : UInt32) ^^^ (((s.rounds k).c : UInt32) + ((s.rounds k).g : UInt32) : UInt32)) 13), w32 (rot (((s.rounds k).e : UInt32) ^^^ ((((s.rounds k).a : UInt32) + ((2654435769 : UInt32) * ((UInt32.ofNat k : UInt32) + (1 : UInt32) : UInt32) : UInt32) : UInt32) + ((s.rounds k).e : UInt32) : UInt32)) 7), w32 (rot (((s.rounds k).f : UInt32) ^^^ (((s.rounds k).b : UInt32) + ((s.rounds k).f : UInt32) : UInt32)) 9), w32 (rot (((s.rounds k).g : UInt32) ^^^ (((s.rounds k).c : UInt32) + ((s.rounds k).g : UInt32) : UInt32)) 13), w32 (rot (((s.rounds k).h : UInt32) ^^^ (((s.rounds k).d : UInt32) + ((s.rounds k).h : UInt32) : UInt32)) 18)]) (V := w32 (rot (((s.rounds k).g : UInt32) ^^^ (((s.rounds k).c : UInt32) + ((s.rounds k).g : UInt32) : UInt32)) 13)) s56_65 s55_65 hbb1_65 (Nat.le_of_ble_eq_true rfl) rfl siz_22 rfl rfl (fun wd66 hX hz hbb1_66 => ?_))
    have hE_66 := hE_65.since hX (fun k e => e ▸ fr_b1)
    have hbb2_66 := hbb2_65.ext hX ne_b1_b2.symm
    have hbb6_66 := hbb6_65.ext hX ne_b1_b6.symm
    clear hX hz hE_65 hbb1_65 hbb2_65 hbb6_65
    refine tail_nil ?_
    refine region_lex [] [(57, Pr.ex (i64 ((4 : Nat) : Int)))] 1 hN_65 hD_65 (by kernel_rfl) (by kernel_rfl) ?_ ?_
    · refine Asks.cons ?_ (Asks.zero _)
      · refine Ask.plain rfl rfl ?_
        intro aq wq hNq hO hR hT
        exact does_add (a := ((3 : Nat) : Int)) (b := ((1 : Nat) : Int)) (r := ((4 : Nat) : Int)) ((hO 47 rfl).trans s47_65) rfl (by decide) (by decide) (by decide) ⟨Ext.refl _, rfl⟩
    intro a67 wd67 hN_67 hD_67 hO hR hA hU
    obtain ⟨t57, _⟩ := hA
    have hE_67 := hE_66.trans hR
    have s1_67 := (hO 1 rfl).trans s1_65
    have s2_67 := (hO 2 rfl).trans s2_65
    have s6_67 := (hO 6 rfl).trans s6_65
    have s8_67 := (hO 8 rfl).trans s8_65
    have s47_67 := (hO 47 rfl).trans s47_65
    have hbb1_67 := hbb1_66.ext' hR
    have hbb2_67 := hbb2_66.ext' hR
    have hbb6_67 := hbb6_66.ext' hR
    have s57_67 : get a67 57 = i64 ((4 : Nat) : Int) := t57
    clear hE_66 hN_65 hD_65 s1_65 s2_65 s6_65 s8_65 s47_65 s55_65 s56_65 hbb1_66 hbb2_66 hbb6_66
    refine tail_put rfl rfl hN_67 hD_67 (by decide) (does_move (V := i64 ((4 : Nat) : Int)) s57_67 (fun a68 hN_68 hD_68 hv hO => ?_))
    have s47_68 := hv
    have s1_68 := (hO 1 rfl).trans s1_67
    have s2_68 := (hO 2 rfl).trans s2_67
    have s6_68 := (hO 6 rfl).trans s6_67
    have s8_68 := (hO 8 rfl).trans s8_67
    clear hO hv hN_67 hD_67 s1_67 s2_67 s6_67 s8_67 s57_67 s47_67
    refine tail_nil ?_
    refine round_step ?_
    refine wp_seq ?_
    refine region_lex [] [(48, Pr.ex (Value.bool (true)))] 1 hN_68 hD_68 (by kernel_rfl) (by kernel_rfl) ?_ ?_
    · refine Asks.cons ?_ (Asks.zero _)
      · refine Ask.plain rfl rfl ?_
        intro aq wq hNq hO hR hT
        exact does_lss (a := ((4 : Nat) : Int)) (b := ((8 : Nat) : Int)) ((hO 47 rfl).trans s47_68) rfl ⟨Ext.refl _, rfl⟩
    intro a69 wd69 hN_69 hD_69 hO hR hA hU
    obtain ⟨t48, _⟩ := hA
    have hE_69 := hE_67.trans hR
    have s1_69 := (hO 1 rfl).trans s1_68
    have s2_69 := (hO 2 rfl).trans s2_68
    have s6_69 := (hO 6 rfl).trans s6_68
    have s8_69 := (hO 8 rfl).trans s8_68
    have s47_69 := (hO 47 rfl).trans s47_68
    have hbb1_69 := hbb1_67.ext' hR
    have hbb2_69 := hbb2_67.ext' hR
    have hbb6_69 := hbb6_67.ext' hR
    have s48_69 : get a69 48 = Value.bool (true) := t48
    clear hE_67 hN_68 hD_68 s1_68 s2_68 s6_68 s8_68 s47_68 hbb1_67 hbb2_67 hbb6_67
    refine tail_nil ?_
    refine wp_seq ?_
    refine wp_ifT s48_69 ?_
    refine wp_skip ?_
    refine wp_seq ?_
    refine wp_block ?_
    refine wp_seq ?_
    refine region_lex [] [(49, Pr.ex (i64 ((4 : Nat) : Int))), (7, Pr.ex (i64 ((4 : Nat) : Int)))] 2 hN_69 hD_69 (by kernel_rfl) (by kernel_rfl) ?_ ?_
    · refine Asks.cons ?_ (Asks.cons ?_ (Asks.zero _))
      · refine Ask.plain rfl rfl ?_
        intro aq wq hNq hO hR hT
        exact does_move (V := i64 ((4 : Nat) : Int)) ((hO 47 rfl).trans s47_69) ⟨Ext.refl _, rfl⟩
      · refine Ask.plain rfl rfl ?_
        intro aq wq hNq hO hR hT
        exact does_assign (V := i64 ((4 : Nat) : Int)) (hT 49 rfl rfl) ⟨Ext.refl _, rfl⟩
    intro a70 wd70 hN_70 hD_70 hO hR hA hU
    obtain ⟨_, t7, _⟩ := hA
    have hE_70 := hE_69.trans hR
    have s1_70 := (hO 1 rfl).trans s1_69
    have s2_70 := (hO 2 rfl).trans s2_69
    have s6_70 := (hO 6 rfl).trans s6_69
    have s8_70 := (hO 8 rfl).trans s8_69
    have s47_70 := (hO 47 rfl).trans s47_69
    have hbb1_70 := hbb1_69.ext' hR
    have hbb2_70 := hbb2_69.ext' hR
    have hbb6_70 := hbb6_69.ext' hR
    have s7_70 : get a70 7 = i64 ((4 : Nat) : Int) := t7
    clear hE_69 hN_69 hD_69 s1_69 s2_69 s6_69 s8_69 s47_69 s48_69 hbb1_69 hbb2_69 hbb6_69
    refine tail_nil ?_
    refine region_lex [] [(50, Pr.ex (i64 ((4 : Nat) : Int))), (51, Pr.ex (i64 ((4 : Nat) : Int))), (52, Pr.ex (i64 ((7 : Nat) : Int))), (53, Pr.ex (i64 ((7 : Nat) : Int))), (54, Pr.ex (Value.pointer (some ⟨b6, 7, none⟩))), (55, Pr.ex (w32 (rot (((s.rounds k).h : UInt32) ^^^ (((s.rounds k).d : UInt32) + ((s.rounds k).h : UInt32) : UInt32)) 18))), (56, Pr.ex (Value.pointer (some ⟨b1, 4, none⟩)))] 7 hN_70 hD_70 (by kernel_rfl) (by kernel_rfl) ?_ ?_
    · refine Asks.cons ?_ (Asks.cons ?_ (Asks.cons ?_ (Asks.cons ?_ (Asks.cons ?_ (Asks.cons ?_ (Asks.cons ?_ (Asks.zero _)))))))
      · refine Ask.plain rfl rfl ?_
        intro aq wq hNq hO hR hT
        exact does_move (V := i64 ((4 : Nat) : Int)) ((hO 7 rfl).trans s7_70) ⟨Ext.refl _, rfl⟩
      · refine Ask.plain rfl rfl ?_
        intro aq wq hNq hO hR hT
        exact does_move (V := i64 ((4 : Nat) : Int)) ((hO 7 rfl).trans s7_70) ⟨Ext.refl _, rfl⟩
      · refine Ask.plain rfl rfl ?_
        intro aq wq hNq hO hR hT
        exact does_add (a := ((4 : Nat) : Int)) (b := ((3 : Nat) : Int)) (r := ((7 : Nat) : Int)) (hT 51 rfl rfl) rfl (by decide) (by decide) (by decide) ⟨Ext.refl _, rfl⟩
      · refine Ask.plain rfl rfl ?_
        intro aq wq hNq hO hR hT
        exact does_rem (k := .i64) (a := ((7 : Nat) : Int)) (b := ((8 : Nat) : Int)) (r := ((7 : Nat) : Int)) (hT 52 rfl rfl) rfl (by decide) (by decide) (by decide) ⟨Ext.refl _, rfl⟩
      · refine Ask.plain rfl rfl ?_
        intro aq wq hNq hO hR hT
        exact does_indexArr (k := .i64) (i := 7) (o' := 7) arr_54 ((hO 6 rfl).trans s6_70) (hT 53 rfl rfl) (by decide) (by decide) rfl ⟨Ext.refl _, rfl⟩
      · refine Ask.plain rfl rfl ?_
        intro aq wq hNq hO hR hT
        exact does_loadD1 (o := 7) (V := w32 (rot (((s.rounds k).h : UInt32) ^^^ (((s.rounds k).d : UInt32) + ((s.rounds k).h : UInt32) : UInt32)) 18)) (hT 54 rfl rfl) (hbb6_70.ext' hR) rfl one_22 ⟨Ext.refl _, rfl⟩
      · refine Ask.plain rfl rfl ?_
        intro aq wq hNq hO hR hT
        exact does_indexArr (k := .i64) (i := 4) (o' := 4) arr_54 ((hO 1 rfl).trans s1_70) (hT 50 rfl rfl) (by decide) (by decide) rfl ⟨Ext.refl _, rfl⟩
    intro a71 wd71 hN_71 hD_71 hO hR hA hU
    obtain ⟨_, _, _, _, _, t55, t56, _⟩ := hA
    have hE_71 := hE_70.trans hR
    have s1_71 := (hO 1 rfl).trans s1_70
    have s2_71 := (hO 2 rfl).trans s2_70
    have s6_71 := (hO 6 rfl).trans s6_70
    have s8_71 := (hO 8 rfl).trans s8_70
    have s47_71 := (hO 47 rfl).trans s47_70
    have hbb1_71 := hbb1_70.ext' hR
    have hbb2_71 := hbb2_70.ext' hR
    have hbb6_71 := hbb6_70.ext' hR
    have s55_71 : get a71 55 = w32 (rot (((s.rounds k).h : UInt32) ^^^ (((s.rounds k).d : UInt32) + ((s.rounds k).h : UInt32) : UInt32)) 18) := t55
    have s56_71 : get a71 56 = Value.pointer (some ⟨b1, 4, none⟩) := t56
    clear hE_70 hN_70 hD_70 s1_70 s2_70 s6_70 s7_70 s8_70 s47_70 hbb1_70 hbb2_70 hbb6_70
    refine tail_none rfl rfl (does_storeD (o := 4) (n := 1) (cs' := [w32 (((s.rounds k).d : UInt32) + ((s.rounds k).h : UInt32)), w32 (rot (((s.rounds k).e : UInt32) ^^^ ((((s.rounds k).a : UInt32) + ((2654435769 : UInt32) * ((UInt32.ofNat k : UInt32) + (1 : UInt32) : UInt32) : UInt32) : UInt32) + ((s.rounds k).e : UInt32) : UInt32)) 7), w32 (rot (((s.rounds k).f : UInt32) ^^^ (((s.rounds k).b : UInt32) + ((s.rounds k).f : UInt32) : UInt32)) 9), w32 (rot (((s.rounds k).g : UInt32) ^^^ (((s.rounds k).c : UInt32) + ((s.rounds k).g : UInt32) : UInt32)) 13), w32 (rot (((s.rounds k).h : UInt32) ^^^ (((s.rounds k).d : UInt32) + ((s.rounds k).h : UInt32) : UInt32)) 18), w32 (rot (((s.rounds k).f : UInt32) ^^^ (((s.rounds k).b : UInt32) + ((s.rounds k).f : UInt32) : UInt32)) 9), w32 (rot (((s.rounds k).g : UInt32) ^^^ (((s.rounds k).c : UInt32) + ((s.rounds k).g : UInt32) : UInt32)) 13), w32 (rot (((s.rounds k).h : UInt32) ^^^ (((s.rounds k).d : UInt32) + ((s.rounds k).h : UInt32) : UInt32)) 18)]) (V := w32 (rot (((s.rounds k).h : UInt32) ^^^ (((s.rounds k).d : UInt32) + ((s.rounds k).h : UInt32) : UInt32)) 18)) s56_71 s55_71 hbb1_71 (Nat.le_of_ble_eq_true rfl) rfl siz_22 rfl rfl (fun wd72 hX hz hbb1_72 => ?_))
    have hE_72 := hE_71.since hX (fun k e => e ▸ fr_b1)
    have hbb2_72 := hbb2_71.ext hX ne_b1_b2.symm
    have hbb6_72 := hbb6_71.ext hX ne_b1_b6.symm
    clear hX hz hE_71 hbb1_71 hbb2_71 hbb6_71
    refine tail_nil ?_
    refine region_lex [] [(57, Pr.ex (i64 ((5 : Nat) : Int)))] 1 hN_71 hD_71 (by kernel_rfl) (by kernel_rfl) ?_ ?_
    · refine Asks.cons ?_ (Asks.zero _)
      · refine Ask.plain rfl rfl ?_
        intro aq wq hNq hO hR hT
        exact does_add (a := ((4 : Nat) : Int)) (b := ((1 : Nat) : Int)) (r := ((5 : Nat) : Int)) ((hO 47 rfl).trans s47_71) rfl (by decide) (by decide) (by decide) ⟨Ext.refl _, rfl⟩
    intro a73 wd73 hN_73 hD_73 hO hR hA hU
    obtain ⟨t57, _⟩ := hA
    have hE_73 := hE_72.trans hR
    have s1_73 := (hO 1 rfl).trans s1_71
    have s2_73 := (hO 2 rfl).trans s2_71
    have s6_73 := (hO 6 rfl).trans s6_71
    have s8_73 := (hO 8 rfl).trans s8_71
    have s47_73 := (hO 47 rfl).trans s47_71
    have hbb1_73 := hbb1_72.ext' hR
    have hbb2_73 := hbb2_72.ext' hR
    have hbb6_73 := hbb6_72.ext' hR
    have s57_73 : get a73 57 = i64 ((5 : Nat) : Int) := t57
    clear hE_72 hN_71 hD_71 s1_71 s2_71 s6_71 s8_71 s47_71 s55_71 s56_71 hbb1_72 hbb2_72 hbb6_72
    refine tail_put rfl rfl hN_73 hD_73 (by decide) (does_move (V := i64 ((5 : Nat) : Int)) s57_73 (fun a74 hN_74 hD_74 hv hO => ?_))
    have s47_74 := hv
    have s1_74 := (hO 1 rfl).trans s1_73
    have s2_74 := (hO 2 rfl).trans s2_73
    have s6_74 := (hO 6 rfl).trans s6_73
    have s8_74 := (hO 8 rfl).trans s8_73
    clear hO hv hN_73 hD_73 s1_73 s2_73 s6_73 s8_73 s57_73 s47_73
    refine tail_nil ?_
    refine round_step ?_
    refine wp_seq ?_
    refine region_lex [] [(48, Pr.ex (Value.bool (true)))] 1 hN_74 hD_74 (by kernel_rfl) (by kernel_rfl) ?_ ?_
    · refine Asks.cons ?_ (Asks.zero _)
      · refine Ask.plain rfl rfl ?_
        intro aq wq hNq hO hR hT
        exact does_lss (a := ((5 : Nat) : Int)) (b := ((8 : Nat) : Int)) ((hO 47 rfl).trans s47_74) rfl ⟨Ext.refl _, rfl⟩
    intro a75 wd75 hN_75 hD_75 hO hR hA hU
    obtain ⟨t48, _⟩ := hA
    have hE_75 := hE_73.trans hR
    have s1_75 := (hO 1 rfl).trans s1_74
    have s2_75 := (hO 2 rfl).trans s2_74
    have s6_75 := (hO 6 rfl).trans s6_74
    have s8_75 := (hO 8 rfl).trans s8_74
    have s47_75 := (hO 47 rfl).trans s47_74
    have hbb1_75 := hbb1_73.ext' hR
    have hbb2_75 := hbb2_73.ext' hR
    have hbb6_75 := hbb6_73.ext' hR
    have s48_75 : get a75 48 = Value.bool (true) := t48
    clear hE_73 hN_74 hD_74 s1_74 s2_74 s6_74 s8_74 s47_74 hbb1_73 hbb2_73 hbb6_73
    refine tail_nil ?_
    refine wp_seq ?_
    refine wp_ifT s48_75 ?_
    refine wp_skip ?_
    refine wp_seq ?_
    refine wp_block ?_
    refine wp_seq ?_
    refine region_lex [] [(49, Pr.ex (i64 ((5 : Nat) : Int))), (7, Pr.ex (i64 ((5 : Nat) : Int)))] 2 hN_75 hD_75 (by kernel_rfl) (by kernel_rfl) ?_ ?_
    · refine Asks.cons ?_ (Asks.cons ?_ (Asks.zero _))
      · refine Ask.plain rfl rfl ?_
        intro aq wq hNq hO hR hT
        exact does_move (V := i64 ((5 : Nat) : Int)) ((hO 47 rfl).trans s47_75) ⟨Ext.refl _, rfl⟩
      · refine Ask.plain rfl rfl ?_
        intro aq wq hNq hO hR hT
        exact does_assign (V := i64 ((5 : Nat) : Int)) (hT 49 rfl rfl) ⟨Ext.refl _, rfl⟩
    intro a76 wd76 hN_76 hD_76 hO hR hA hU
    obtain ⟨_, t7, _⟩ := hA
    have hE_76 := hE_75.trans hR
    have s1_76 := (hO 1 rfl).trans s1_75
    have s2_76 := (hO 2 rfl).trans s2_75
    have s6_76 := (hO 6 rfl).trans s6_75
    have s8_76 := (hO 8 rfl).trans s8_75
    have s47_76 := (hO 47 rfl).trans s47_75
    have hbb1_76 := hbb1_75.ext' hR
    have hbb2_76 := hbb2_75.ext' hR
    have hbb6_76 := hbb6_75.ext' hR
    have s7_76 : get a76 7 = i64 ((5 : Nat) : Int) := t7
    clear hE_75 hN_75 hD_75 s1_75 s2_75 s6_75 s8_75 s47_75 s48_75 hbb1_75 hbb2_75 hbb6_75
    refine tail_nil ?_
    refine region_lex [] [(50, Pr.ex (i64 ((5 : Nat) : Int))), (51, Pr.ex (i64 ((5 : Nat) : Int))), (52, Pr.ex (i64 ((8 : Nat) : Int))), (53, Pr.ex (i64 ((0 : Nat) : Int))), (54, Pr.ex (Value.pointer (some ⟨b6, 0, none⟩))), (55, Pr.ex (w32 ((((s.rounds k).a : UInt32) + ((2654435769 : UInt32) * ((UInt32.ofNat k : UInt32) + (1 : UInt32) : UInt32) : UInt32) : UInt32) + ((s.rounds k).e : UInt32)))), (56, Pr.ex (Value.pointer (some ⟨b1, 5, none⟩)))] 7 hN_76 hD_76 (by kernel_rfl) (by kernel_rfl) ?_ ?_
    · refine Asks.cons ?_ (Asks.cons ?_ (Asks.cons ?_ (Asks.cons ?_ (Asks.cons ?_ (Asks.cons ?_ (Asks.cons ?_ (Asks.zero _)))))))
      · refine Ask.plain rfl rfl ?_
        intro aq wq hNq hO hR hT
        exact does_move (V := i64 ((5 : Nat) : Int)) ((hO 7 rfl).trans s7_76) ⟨Ext.refl _, rfl⟩
      · refine Ask.plain rfl rfl ?_
        intro aq wq hNq hO hR hT
        exact does_move (V := i64 ((5 : Nat) : Int)) ((hO 7 rfl).trans s7_76) ⟨Ext.refl _, rfl⟩
      · refine Ask.plain rfl rfl ?_
        intro aq wq hNq hO hR hT
        exact does_add (a := ((5 : Nat) : Int)) (b := ((3 : Nat) : Int)) (r := ((8 : Nat) : Int)) (hT 51 rfl rfl) rfl (by decide) (by decide) (by decide) ⟨Ext.refl _, rfl⟩
      · refine Ask.plain rfl rfl ?_
        intro aq wq hNq hO hR hT
        exact does_rem (k := .i64) (a := ((8 : Nat) : Int)) (b := ((8 : Nat) : Int)) (r := ((0 : Nat) : Int)) (hT 52 rfl rfl) rfl (by decide) (by decide) (by decide) ⟨Ext.refl _, rfl⟩
      · refine Ask.plain rfl rfl ?_
        intro aq wq hNq hO hR hT
        exact does_indexArr (k := .i64) (i := 0) (o' := 0) arr_54 ((hO 6 rfl).trans s6_76) (hT 53 rfl rfl) (by decide) (by decide) rfl ⟨Ext.refl _, rfl⟩
      · refine Ask.plain rfl rfl ?_
        intro aq wq hNq hO hR hT
        exact does_loadD1 (o := 0) (V := w32 ((((s.rounds k).a : UInt32) + ((2654435769 : UInt32) * ((UInt32.ofNat k : UInt32) + (1 : UInt32) : UInt32) : UInt32) : UInt32) + ((s.rounds k).e : UInt32))) (hT 54 rfl rfl) (hbb6_76.ext' hR) rfl one_22 ⟨Ext.refl _, rfl⟩
      · refine Ask.plain rfl rfl ?_
        intro aq wq hNq hO hR hT
        exact does_indexArr (k := .i64) (i := 5) (o' := 5) arr_54 ((hO 1 rfl).trans s1_76) (hT 50 rfl rfl) (by decide) (by decide) rfl ⟨Ext.refl _, rfl⟩
    intro a77 wd77 hN_77 hD_77 hO hR hA hU
    obtain ⟨_, _, _, _, _, t55, t56, _⟩ := hA
    have hE_77 := hE_76.trans hR
    have s1_77 := (hO 1 rfl).trans s1_76
    have s2_77 := (hO 2 rfl).trans s2_76
    have s6_77 := (hO 6 rfl).trans s6_76
    have s8_77 := (hO 8 rfl).trans s8_76
    have s47_77 := (hO 47 rfl).trans s47_76
    have hbb1_77 := hbb1_76.ext' hR
    have hbb2_77 := hbb2_76.ext' hR
    have hbb6_77 := hbb6_76.ext' hR
    have s55_77 : get a77 55 = w32 ((((s.rounds k).a : UInt32) + ((2654435769 : UInt32) * ((UInt32.ofNat k : UInt32) + (1 : UInt32) : UInt32) : UInt32) : UInt32) + ((s.rounds k).e : UInt32)) := t55
    have s56_77 : get a77 56 = Value.pointer (some ⟨b1, 5, none⟩) := t56
    clear hE_76 hN_76 hD_76 s1_76 s2_76 s6_76 s7_76 s8_76 s47_76 hbb1_76 hbb2_76 hbb6_76
    refine tail_none rfl rfl (does_storeD (o := 5) (n := 1) (cs' := [w32 (((s.rounds k).d : UInt32) + ((s.rounds k).h : UInt32)), w32 (rot (((s.rounds k).e : UInt32) ^^^ ((((s.rounds k).a : UInt32) + ((2654435769 : UInt32) * ((UInt32.ofNat k : UInt32) + (1 : UInt32) : UInt32) : UInt32) : UInt32) + ((s.rounds k).e : UInt32) : UInt32)) 7), w32 (rot (((s.rounds k).f : UInt32) ^^^ (((s.rounds k).b : UInt32) + ((s.rounds k).f : UInt32) : UInt32)) 9), w32 (rot (((s.rounds k).g : UInt32) ^^^ (((s.rounds k).c : UInt32) + ((s.rounds k).g : UInt32) : UInt32)) 13), w32 (rot (((s.rounds k).h : UInt32) ^^^ (((s.rounds k).d : UInt32) + ((s.rounds k).h : UInt32) : UInt32)) 18), w32 ((((s.rounds k).a : UInt32) + ((2654435769 : UInt32) * ((UInt32.ofNat k : UInt32) + (1 : UInt32) : UInt32) : UInt32) : UInt32) + ((s.rounds k).e : UInt32)), w32 (rot (((s.rounds k).g : UInt32) ^^^ (((s.rounds k).c : UInt32) + ((s.rounds k).g : UInt32) : UInt32)) 13), w32 (rot (((s.rounds k).h : UInt32) ^^^ (((s.rounds k).d : UInt32) + ((s.rounds k).h : UInt32) : UInt32)) 18)]) (V := w32 ((((s.rounds k).a : UInt32) + ((2654435769 : UInt32) * ((UInt32.ofNat k : UInt32) + (1 : UInt32) : UInt32) : UInt32) : UInt32) + ((s.rounds k).e : UInt32))) s56_77 s55_77 hbb1_77 (Nat.le_of_ble_eq_true rfl) rfl siz_22 rfl rfl (fun wd78 hX hz hbb1_78 => ?_))
    have hE_78 := hE_77.since hX (fun k e => e ▸ fr_b1)
    have hbb2_78 := hbb2_77.ext hX ne_b1_b2.symm
    have hbb6_78 := hbb6_77.ext hX ne_b1_b6.symm
    clear hX hz hE_77 hbb1_77 hbb2_77 hbb6_77
    refine tail_nil ?_
    refine region_lex [] [(57, Pr.ex (i64 ((6 : Nat) : Int)))] 1 hN_77 hD_77 (by kernel_rfl) (by kernel_rfl) ?_ ?_
    · refine Asks.cons ?_ (Asks.zero _)
      · refine Ask.plain rfl rfl ?_
        intro aq wq hNq hO hR hT
        exact does_add (a := ((5 : Nat) : Int)) (b := ((1 : Nat) : Int)) (r := ((6 : Nat) : Int)) ((hO 47 rfl).trans s47_77) rfl (by decide) (by decide) (by decide) ⟨Ext.refl _, rfl⟩
    intro a79 wd79 hN_79 hD_79 hO hR hA hU
    obtain ⟨t57, _⟩ := hA
    have hE_79 := hE_78.trans hR
    have s1_79 := (hO 1 rfl).trans s1_77
    have s2_79 := (hO 2 rfl).trans s2_77
    have s6_79 := (hO 6 rfl).trans s6_77
    have s8_79 := (hO 8 rfl).trans s8_77
    have s47_79 := (hO 47 rfl).trans s47_77
    have hbb1_79 := hbb1_78.ext' hR
    have hbb2_79 := hbb2_78.ext' hR
    have hbb6_79 := hbb6_78.ext' hR
    have s57_79 : get a79 57 = i64 ((6 : Nat) : Int) := t57
    clear hE_78 hN_77 hD_77 s1_77 s2_77 s6_77 s8_77 s47_77 s55_77 s56_77 hbb1_78 hbb2_78 hbb6_78
    refine tail_put rfl rfl hN_79 hD_79 (by decide) (does_move (V := i64 ((6 : Nat) : Int)) s57_79 (fun a80 hN_80 hD_80 hv hO => ?_))
    have s47_80 := hv
    have s1_80 := (hO 1 rfl).trans s1_79
    have s2_80 := (hO 2 rfl).trans s2_79
    have s6_80 := (hO 6 rfl).trans s6_79
    have s8_80 := (hO 8 rfl).trans s8_79
    clear hO hv hN_79 hD_79 s1_79 s2_79 s6_79 s8_79 s57_79 s47_79
    refine tail_nil ?_
    refine round_step ?_
    refine wp_seq ?_
    refine region_lex [] [(48, Pr.ex (Value.bool (true)))] 1 hN_80 hD_80 (by kernel_rfl) (by kernel_rfl) ?_ ?_
    · refine Asks.cons ?_ (Asks.zero _)
      · refine Ask.plain rfl rfl ?_
        intro aq wq hNq hO hR hT
        exact does_lss (a := ((6 : Nat) : Int)) (b := ((8 : Nat) : Int)) ((hO 47 rfl).trans s47_80) rfl ⟨Ext.refl _, rfl⟩
    intro a81 wd81 hN_81 hD_81 hO hR hA hU
    obtain ⟨t48, _⟩ := hA
    have hE_81 := hE_79.trans hR
    have s1_81 := (hO 1 rfl).trans s1_80
    have s2_81 := (hO 2 rfl).trans s2_80
    have s6_81 := (hO 6 rfl).trans s6_80
    have s8_81 := (hO 8 rfl).trans s8_80
    have s47_81 := (hO 47 rfl).trans s47_80
    have hbb1_81 := hbb1_79.ext' hR
    have hbb2_81 := hbb2_79.ext' hR
    have hbb6_81 := hbb6_79.ext' hR
    have s48_81 : get a81 48 = Value.bool (true) := t48
    clear hE_79 hN_80 hD_80 s1_80 s2_80 s6_80 s8_80 s47_80 hbb1_79 hbb2_79 hbb6_79
    refine tail_nil ?_
    refine wp_seq ?_
    refine wp_ifT s48_81 ?_
    refine wp_skip ?_
    refine wp_seq ?_
    refine wp_block ?_
    refine wp_seq ?_
    refine region_lex [] [(49, Pr.ex (i64 ((6 : Nat) : Int))), (7, Pr.ex (i64 ((6 : Nat) : Int)))] 2 hN_81 hD_81 (by kernel_rfl) (by kernel_rfl) ?_ ?_
    · refine Asks.cons ?_ (Asks.cons ?_ (Asks.zero _))
      · refine Ask.plain rfl rfl ?_
        intro aq wq hNq hO hR hT
        exact does_move (V := i64 ((6 : Nat) : Int)) ((hO 47 rfl).trans s47_81) ⟨Ext.refl _, rfl⟩
      · refine Ask.plain rfl rfl ?_
        intro aq wq hNq hO hR hT
        exact does_assign (V := i64 ((6 : Nat) : Int)) (hT 49 rfl rfl) ⟨Ext.refl _, rfl⟩
    intro a82 wd82 hN_82 hD_82 hO hR hA hU
    obtain ⟨_, t7, _⟩ := hA
    have hE_82 := hE_81.trans hR
    have s1_82 := (hO 1 rfl).trans s1_81
    have s2_82 := (hO 2 rfl).trans s2_81
    have s6_82 := (hO 6 rfl).trans s6_81
    have s8_82 := (hO 8 rfl).trans s8_81
    have s47_82 := (hO 47 rfl).trans s47_81
    have hbb1_82 := hbb1_81.ext' hR
    have hbb2_82 := hbb2_81.ext' hR
    have hbb6_82 := hbb6_81.ext' hR
    have s7_82 : get a82 7 = i64 ((6 : Nat) : Int) := t7
    clear hE_81 hN_81 hD_81 s1_81 s2_81 s6_81 s8_81 s47_81 s48_81 hbb1_81 hbb2_81 hbb6_81
    refine tail_nil ?_
    refine region_lex [] [(50, Pr.ex (i64 ((6 : Nat) : Int))), (51, Pr.ex (i64 ((6 : Nat) : Int))), (52, Pr.ex (i64 ((9 : Nat) : Int))), (53, Pr.ex (i64 ((1 : Nat) : Int))), (54, Pr.ex (Value.pointer (some ⟨b6, 1, none⟩))), (55, Pr.ex (w32 (((s.rounds k).b : UInt32) + ((s.rounds k).f : UInt32)))), (56, Pr.ex (Value.pointer (some ⟨b1, 6, none⟩)))] 7 hN_82 hD_82 (by kernel_rfl) (by kernel_rfl) ?_ ?_
    · refine Asks.cons ?_ (Asks.cons ?_ (Asks.cons ?_ (Asks.cons ?_ (Asks.cons ?_ (Asks.cons ?_ (Asks.cons ?_ (Asks.zero _)))))))
      · refine Ask.plain rfl rfl ?_
        intro aq wq hNq hO hR hT
        exact does_move (V := i64 ((6 : Nat) : Int)) ((hO 7 rfl).trans s7_82) ⟨Ext.refl _, rfl⟩
      · refine Ask.plain rfl rfl ?_
        intro aq wq hNq hO hR hT
        exact does_move (V := i64 ((6 : Nat) : Int)) ((hO 7 rfl).trans s7_82) ⟨Ext.refl _, rfl⟩
      · refine Ask.plain rfl rfl ?_
        intro aq wq hNq hO hR hT
        exact does_add (a := ((6 : Nat) : Int)) (b := ((3 : Nat) : Int)) (r := ((9 : Nat) : Int)) (hT 51 rfl rfl) rfl (by decide) (by decide) (by decide) ⟨Ext.refl _, rfl⟩
      · refine Ask.plain rfl rfl ?_
        intro aq wq hNq hO hR hT
        exact does_rem (k := .i64) (a := ((9 : Nat) : Int)) (b := ((8 : Nat) : Int)) (r := ((1 : Nat) : Int)) (hT 52 rfl rfl) rfl (by decide) (by decide) (by decide) ⟨Ext.refl _, rfl⟩
      · refine Ask.plain rfl rfl ?_
        intro aq wq hNq hO hR hT
        exact does_indexArr (k := .i64) (i := 1) (o' := 1) arr_54 ((hO 6 rfl).trans s6_82) (hT 53 rfl rfl) (by decide) (by decide) rfl ⟨Ext.refl _, rfl⟩
      · refine Ask.plain rfl rfl ?_
        intro aq wq hNq hO hR hT
        exact does_loadD1 (o := 1) (V := w32 (((s.rounds k).b : UInt32) + ((s.rounds k).f : UInt32))) (hT 54 rfl rfl) (hbb6_82.ext' hR) rfl one_22 ⟨Ext.refl _, rfl⟩
      · refine Ask.plain rfl rfl ?_
        intro aq wq hNq hO hR hT
        exact does_indexArr (k := .i64) (i := 6) (o' := 6) arr_54 ((hO 1 rfl).trans s1_82) (hT 50 rfl rfl) (by decide) (by decide) rfl ⟨Ext.refl _, rfl⟩
    intro a83 wd83 hN_83 hD_83 hO hR hA hU
    obtain ⟨_, _, _, _, _, t55, t56, _⟩ := hA
    have hE_83 := hE_82.trans hR
    have s1_83 := (hO 1 rfl).trans s1_82
    have s2_83 := (hO 2 rfl).trans s2_82
    have s6_83 := (hO 6 rfl).trans s6_82
    have s8_83 := (hO 8 rfl).trans s8_82
    have s47_83 := (hO 47 rfl).trans s47_82
    have hbb1_83 := hbb1_82.ext' hR
    have hbb2_83 := hbb2_82.ext' hR
    have hbb6_83 := hbb6_82.ext' hR
    have s55_83 : get a83 55 = w32 (((s.rounds k).b : UInt32) + ((s.rounds k).f : UInt32)) := t55
    have s56_83 : get a83 56 = Value.pointer (some ⟨b1, 6, none⟩) := t56
    clear hE_82 hN_82 hD_82 s1_82 s2_82 s6_82 s7_82 s8_82 s47_82 hbb1_82 hbb2_82 hbb6_82
    refine tail_none rfl rfl (does_storeD (o := 6) (n := 1) (cs' := [w32 (((s.rounds k).d : UInt32) + ((s.rounds k).h : UInt32)), w32 (rot (((s.rounds k).e : UInt32) ^^^ ((((s.rounds k).a : UInt32) + ((2654435769 : UInt32) * ((UInt32.ofNat k : UInt32) + (1 : UInt32) : UInt32) : UInt32) : UInt32) + ((s.rounds k).e : UInt32) : UInt32)) 7), w32 (rot (((s.rounds k).f : UInt32) ^^^ (((s.rounds k).b : UInt32) + ((s.rounds k).f : UInt32) : UInt32)) 9), w32 (rot (((s.rounds k).g : UInt32) ^^^ (((s.rounds k).c : UInt32) + ((s.rounds k).g : UInt32) : UInt32)) 13), w32 (rot (((s.rounds k).h : UInt32) ^^^ (((s.rounds k).d : UInt32) + ((s.rounds k).h : UInt32) : UInt32)) 18), w32 ((((s.rounds k).a : UInt32) + ((2654435769 : UInt32) * ((UInt32.ofNat k : UInt32) + (1 : UInt32) : UInt32) : UInt32) : UInt32) + ((s.rounds k).e : UInt32)), w32 (((s.rounds k).b : UInt32) + ((s.rounds k).f : UInt32)), w32 (rot (((s.rounds k).h : UInt32) ^^^ (((s.rounds k).d : UInt32) + ((s.rounds k).h : UInt32) : UInt32)) 18)]) (V := w32 (((s.rounds k).b : UInt32) + ((s.rounds k).f : UInt32))) s56_83 s55_83 hbb1_83 (Nat.le_of_ble_eq_true rfl) rfl siz_22 rfl rfl (fun wd84 hX hz hbb1_84 => ?_))
    have hE_84 := hE_83.since hX (fun k e => e ▸ fr_b1)
    have hbb2_84 := hbb2_83.ext hX ne_b1_b2.symm
    have hbb6_84 := hbb6_83.ext hX ne_b1_b6.symm
    clear hX hz hE_83 hbb1_83 hbb2_83 hbb6_83
    refine tail_nil ?_
    refine region_lex [] [(57, Pr.ex (i64 ((7 : Nat) : Int)))] 1 hN_83 hD_83 (by kernel_rfl) (by kernel_rfl) ?_ ?_
    · refine Asks.cons ?_ (Asks.zero _)
      · refine Ask.plain rfl rfl ?_
        intro aq wq hNq hO hR hT
        exact does_add (a := ((6 : Nat) : Int)) (b := ((1 : Nat) : Int)) (r := ((7 : Nat) : Int)) ((hO 47 rfl).trans s47_83) rfl (by decide) (by decide) (by decide) ⟨Ext.refl _, rfl⟩
    intro a85 wd85 hN_85 hD_85 hO hR hA hU
    obtain ⟨t57, _⟩ := hA
    have hE_85 := hE_84.trans hR
    have s1_85 := (hO 1 rfl).trans s1_83
    have s2_85 := (hO 2 rfl).trans s2_83
    have s6_85 := (hO 6 rfl).trans s6_83
    have s8_85 := (hO 8 rfl).trans s8_83
    have s47_85 := (hO 47 rfl).trans s47_83
    have hbb1_85 := hbb1_84.ext' hR
    have hbb2_85 := hbb2_84.ext' hR
    have hbb6_85 := hbb6_84.ext' hR
    have s57_85 : get a85 57 = i64 ((7 : Nat) : Int) := t57
    clear hE_84 hN_83 hD_83 s1_83 s2_83 s6_83 s8_83 s47_83 s55_83 s56_83 hbb1_84 hbb2_84 hbb6_84
    refine tail_put rfl rfl hN_85 hD_85 (by decide) (does_move (V := i64 ((7 : Nat) : Int)) s57_85 (fun a86 hN_86 hD_86 hv hO => ?_))
    have s47_86 := hv
    have s1_86 := (hO 1 rfl).trans s1_85
    have s2_86 := (hO 2 rfl).trans s2_85
    have s6_86 := (hO 6 rfl).trans s6_85
    have s8_86 := (hO 8 rfl).trans s8_85
    clear hO hv hN_85 hD_85 s1_85 s2_85 s6_85 s8_85 s57_85 s47_85
    refine tail_nil ?_
    refine round_step ?_
    refine wp_seq ?_
    refine region_lex [] [(48, Pr.ex (Value.bool (true)))] 1 hN_86 hD_86 (by kernel_rfl) (by kernel_rfl) ?_ ?_
    · refine Asks.cons ?_ (Asks.zero _)
      · refine Ask.plain rfl rfl ?_
        intro aq wq hNq hO hR hT
        exact does_lss (a := ((7 : Nat) : Int)) (b := ((8 : Nat) : Int)) ((hO 47 rfl).trans s47_86) rfl ⟨Ext.refl _, rfl⟩
    intro a87 wd87 hN_87 hD_87 hO hR hA hU
    obtain ⟨t48, _⟩ := hA
    have hE_87 := hE_85.trans hR
    have s1_87 := (hO 1 rfl).trans s1_86
    have s2_87 := (hO 2 rfl).trans s2_86
    have s6_87 := (hO 6 rfl).trans s6_86
    have s8_87 := (hO 8 rfl).trans s8_86
    have s47_87 := (hO 47 rfl).trans s47_86
    have hbb1_87 := hbb1_85.ext' hR
    have hbb2_87 := hbb2_85.ext' hR
    have hbb6_87 := hbb6_85.ext' hR
    have s48_87 : get a87 48 = Value.bool (true) := t48
    clear hE_85 hN_86 hD_86 s1_86 s2_86 s6_86 s8_86 s47_86 hbb1_85 hbb2_85 hbb6_85
    refine tail_nil ?_
    refine wp_seq ?_
    refine wp_ifT s48_87 ?_
    refine wp_skip ?_
    refine wp_seq ?_
    refine wp_block ?_
    refine wp_seq ?_
    refine region_lex [] [(49, Pr.ex (i64 ((7 : Nat) : Int))), (7, Pr.ex (i64 ((7 : Nat) : Int)))] 2 hN_87 hD_87 (by kernel_rfl) (by kernel_rfl) ?_ ?_
    · refine Asks.cons ?_ (Asks.cons ?_ (Asks.zero _))
      · refine Ask.plain rfl rfl ?_
        intro aq wq hNq hO hR hT
        exact does_move (V := i64 ((7 : Nat) : Int)) ((hO 47 rfl).trans s47_87) ⟨Ext.refl _, rfl⟩
      · refine Ask.plain rfl rfl ?_
        intro aq wq hNq hO hR hT
        exact does_assign (V := i64 ((7 : Nat) : Int)) (hT 49 rfl rfl) ⟨Ext.refl _, rfl⟩
    intro a88 wd88 hN_88 hD_88 hO hR hA hU
    obtain ⟨_, t7, _⟩ := hA
    have hE_88 := hE_87.trans hR
    have s1_88 := (hO 1 rfl).trans s1_87
    have s2_88 := (hO 2 rfl).trans s2_87
    have s6_88 := (hO 6 rfl).trans s6_87
    have s8_88 := (hO 8 rfl).trans s8_87
    have s47_88 := (hO 47 rfl).trans s47_87
    have hbb1_88 := hbb1_87.ext' hR
    have hbb2_88 := hbb2_87.ext' hR
    have hbb6_88 := hbb6_87.ext' hR
    have s7_88 : get a88 7 = i64 ((7 : Nat) : Int) := t7
    clear hE_87 hN_87 hD_87 s1_87 s2_87 s6_87 s8_87 s47_87 s48_87 hbb1_87 hbb2_87 hbb6_87
    refine tail_nil ?_
    refine region_lex [] [(50, Pr.ex (i64 ((7 : Nat) : Int))), (51, Pr.ex (i64 ((7 : Nat) : Int))), (52, Pr.ex (i64 ((10 : Nat) : Int))), (53, Pr.ex (i64 ((2 : Nat) : Int))), (54, Pr.ex (Value.pointer (some ⟨b6, 2, none⟩))), (55, Pr.ex (w32 (((s.rounds k).c : UInt32) + ((s.rounds k).g : UInt32)))), (56, Pr.ex (Value.pointer (some ⟨b1, 7, none⟩)))] 7 hN_88 hD_88 (by kernel_rfl) (by kernel_rfl) ?_ ?_
    · refine Asks.cons ?_ (Asks.cons ?_ (Asks.cons ?_ (Asks.cons ?_ (Asks.cons ?_ (Asks.cons ?_ (Asks.cons ?_ (Asks.zero _)))))))
      · refine Ask.plain rfl rfl ?_
        intro aq wq hNq hO hR hT
        exact does_move (V := i64 ((7 : Nat) : Int)) ((hO 7 rfl).trans s7_88) ⟨Ext.refl _, rfl⟩
      · refine Ask.plain rfl rfl ?_
        intro aq wq hNq hO hR hT
        exact does_move (V := i64 ((7 : Nat) : Int)) ((hO 7 rfl).trans s7_88) ⟨Ext.refl _, rfl⟩
      · refine Ask.plain rfl rfl ?_
        intro aq wq hNq hO hR hT
        exact does_add (a := ((7 : Nat) : Int)) (b := ((3 : Nat) : Int)) (r := ((10 : Nat) : Int)) (hT 51 rfl rfl) rfl (by decide) (by decide) (by decide) ⟨Ext.refl _, rfl⟩
      · refine Ask.plain rfl rfl ?_
        intro aq wq hNq hO hR hT
        exact does_rem (k := .i64) (a := ((10 : Nat) : Int)) (b := ((8 : Nat) : Int)) (r := ((2 : Nat) : Int)) (hT 52 rfl rfl) rfl (by decide) (by decide) (by decide) ⟨Ext.refl _, rfl⟩
      · refine Ask.plain rfl rfl ?_
        intro aq wq hNq hO hR hT
        exact does_indexArr (k := .i64) (i := 2) (o' := 2) arr_54 ((hO 6 rfl).trans s6_88) (hT 53 rfl rfl) (by decide) (by decide) rfl ⟨Ext.refl _, rfl⟩
      · refine Ask.plain rfl rfl ?_
        intro aq wq hNq hO hR hT
        exact does_loadD1 (o := 2) (V := w32 (((s.rounds k).c : UInt32) + ((s.rounds k).g : UInt32))) (hT 54 rfl rfl) (hbb6_88.ext' hR) rfl one_22 ⟨Ext.refl _, rfl⟩
      · refine Ask.plain rfl rfl ?_
        intro aq wq hNq hO hR hT
        exact does_indexArr (k := .i64) (i := 7) (o' := 7) arr_54 ((hO 1 rfl).trans s1_88) (hT 50 rfl rfl) (by decide) (by decide) rfl ⟨Ext.refl _, rfl⟩
    intro a89 wd89 hN_89 hD_89 hO hR hA hU
    obtain ⟨_, _, _, _, _, t55, t56, _⟩ := hA
    have hE_89 := hE_88.trans hR
    have s1_89 := (hO 1 rfl).trans s1_88
    have s2_89 := (hO 2 rfl).trans s2_88
    have s6_89 := (hO 6 rfl).trans s6_88
    have s8_89 := (hO 8 rfl).trans s8_88
    have s47_89 := (hO 47 rfl).trans s47_88
    have hbb1_89 := hbb1_88.ext' hR
    have hbb2_89 := hbb2_88.ext' hR
    have hbb6_89 := hbb6_88.ext' hR
    have s55_89 : get a89 55 = w32 (((s.rounds k).c : UInt32) + ((s.rounds k).g : UInt32)) := t55
    have s56_89 : get a89 56 = Value.pointer (some ⟨b1, 7, none⟩) := t56
    clear hE_88 hN_88 hD_88 s1_88 s2_88 s6_88 s7_88 s8_88 s47_88 hbb1_88 hbb2_88 hbb6_88
    refine tail_none rfl rfl (does_storeD (o := 7) (n := 1) (cs' := [w32 (((s.rounds k).d : UInt32) + ((s.rounds k).h : UInt32)), w32 (rot (((s.rounds k).e : UInt32) ^^^ ((((s.rounds k).a : UInt32) + ((2654435769 : UInt32) * ((UInt32.ofNat k : UInt32) + (1 : UInt32) : UInt32) : UInt32) : UInt32) + ((s.rounds k).e : UInt32) : UInt32)) 7), w32 (rot (((s.rounds k).f : UInt32) ^^^ (((s.rounds k).b : UInt32) + ((s.rounds k).f : UInt32) : UInt32)) 9), w32 (rot (((s.rounds k).g : UInt32) ^^^ (((s.rounds k).c : UInt32) + ((s.rounds k).g : UInt32) : UInt32)) 13), w32 (rot (((s.rounds k).h : UInt32) ^^^ (((s.rounds k).d : UInt32) + ((s.rounds k).h : UInt32) : UInt32)) 18), w32 ((((s.rounds k).a : UInt32) + ((2654435769 : UInt32) * ((UInt32.ofNat k : UInt32) + (1 : UInt32) : UInt32) : UInt32) : UInt32) + ((s.rounds k).e : UInt32)), w32 (((s.rounds k).b : UInt32) + ((s.rounds k).f : UInt32)), w32 (((s.rounds k).c : UInt32) + ((s.rounds k).g : UInt32))]) (V := w32 (((s.rounds k).c : UInt32) + ((s.rounds k).g : UInt32))) s56_89 s55_89 hbb1_89 (Nat.le_of_ble_eq_true rfl) rfl siz_22 rfl rfl (fun wd90 hX hz hbb1_90 => ?_))
    have hE_90 := hE_89.since hX (fun k e => e ▸ fr_b1)
    have hbb2_90 := hbb2_89.ext hX ne_b1_b2.symm
    have hbb6_90 := hbb6_89.ext hX ne_b1_b6.symm
    clear hX hz hE_89 hbb1_89 hbb2_89 hbb6_89
    refine tail_nil ?_
    refine region_lex [] [(57, Pr.ex (i64 ((8 : Nat) : Int)))] 1 hN_89 hD_89 (by kernel_rfl) (by kernel_rfl) ?_ ?_
    · refine Asks.cons ?_ (Asks.zero _)
      · refine Ask.plain rfl rfl ?_
        intro aq wq hNq hO hR hT
        exact does_add (a := ((7 : Nat) : Int)) (b := ((1 : Nat) : Int)) (r := ((8 : Nat) : Int)) ((hO 47 rfl).trans s47_89) rfl (by decide) (by decide) (by decide) ⟨Ext.refl _, rfl⟩
    intro a91 wd91 hN_91 hD_91 hO hR hA hU
    obtain ⟨t57, _⟩ := hA
    have hE_91 := hE_90.trans hR
    have s1_91 := (hO 1 rfl).trans s1_89
    have s2_91 := (hO 2 rfl).trans s2_89
    have s6_91 := (hO 6 rfl).trans s6_89
    have s8_91 := (hO 8 rfl).trans s8_89
    have s47_91 := (hO 47 rfl).trans s47_89
    have hbb1_91 := hbb1_90.ext' hR
    have hbb2_91 := hbb2_90.ext' hR
    have hbb6_91 := hbb6_90.ext' hR
    have s57_91 : get a91 57 = i64 ((8 : Nat) : Int) := t57
    clear hE_90 hN_89 hD_89 s1_89 s2_89 s6_89 s8_89 s47_89 s55_89 s56_89 hbb1_90 hbb2_90 hbb6_90
    refine tail_put rfl rfl hN_91 hD_91 (by decide) (does_move (V := i64 ((8 : Nat) : Int)) s57_91 (fun a92 hN_92 hD_92 hv hO => ?_))
    have s47_92 := hv
    have s1_92 := (hO 1 rfl).trans s1_91
    have s2_92 := (hO 2 rfl).trans s2_91
    have s6_92 := (hO 6 rfl).trans s6_91
    have s8_92 := (hO 8 rfl).trans s8_91
    clear hO hv hN_91 hD_91 s1_91 s2_91 s6_91 s8_91 s57_91 s47_91
    refine tail_nil ?_
    refine round_step ?_
    refine wp_seq ?_
    refine region_lex [] [(48, Pr.ex (Value.bool (false)))] 1 hN_92 hD_92 (by kernel_rfl) (by kernel_rfl) ?_ ?_
    · refine Asks.cons ?_ (Asks.zero _)
      · refine Ask.plain rfl rfl ?_
        intro aq wq hNq hO hR hT
        exact does_lss (a := ((8 : Nat) : Int)) (b := ((8 : Nat) : Int)) ((hO 47 rfl).trans s47_92) rfl ⟨Ext.refl _, rfl⟩
    intro a93 wd93 hN_93 hD_93 hO hR hA hU
    obtain ⟨t48, _⟩ := hA
    have hE_93 := hE_91.trans hR
    have s1_93 := (hO 1 rfl).trans s1_92
    have s2_93 := (hO 2 rfl).trans s2_92
    have s6_93 := (hO 6 rfl).trans s6_92
    have s8_93 := (hO 8 rfl).trans s8_92
    have s47_93 := (hO 47 rfl).trans s47_92
    have hbb1_93 := hbb1_91.ext' hR
    have hbb2_93 := hbb2_91.ext' hR
    have hbb6_93 := hbb6_91.ext' hR
    have s48_93 : get a93 48 = Value.bool (false) := t48
    clear hE_91 hN_92 hD_92 s1_92 s2_92 s6_92 s8_92 s47_92 hbb1_91 hbb2_91 hbb6_91
    refine tail_nil ?_
    refine wp_seq ?_
    refine wp_ifF s48_93 ?_
    refine wp_exit ?_
    refine region_lex [] [(58, Pr.ex (w32 ((UInt32.ofNat k : UInt32) + (1 : UInt32))))] 1 hN_93 hD_93 (by kernel_rfl) (by kernel_rfl) ?_ ?_
    · refine Asks.cons ?_ (Asks.zero _)
      · refine Ask.plain rfl rfl ?_
        intro aq wq hNq hO hR hT
        exact does_add32 (a := (UInt32.ofNat k : UInt32)) (b := (1 : UInt32)) ((hO 8 rfl).trans s8_93) rfl ⟨Ext.refl _, rfl⟩
    intro a94 wd94 hN_94 hD_94 hO hR hA hU
    obtain ⟨t58, _⟩ := hA
    have hE_94 := hE_93.trans hR
    have s1_94 := (hO 1 rfl).trans s1_93
    have s2_94 := (hO 2 rfl).trans s2_93
    have s8_94 := (hO 8 rfl).trans s8_93
    have hbb1_94 := hbb1_93.ext' hR
    have hbb2_94 := hbb2_93.ext' hR
    have hbb6_94 := hbb6_93.ext' hR
    have s58_94 : get a94 58 = w32 ((UInt32.ofNat k : UInt32) + (1 : UInt32)) := t58
    clear hE_93 hN_93 hD_93 s1_93 s2_93 s6_93 s8_93 s47_93 s48_93 hbb1_93 hbb2_93 hbb6_93
    refine tail_put rfl rfl hN_94 hD_94 (by decide) (does_move (V := w32 ((UInt32.ofNat k : UInt32) + (1 : UInt32))) s58_94 (fun a95 hN_95 hD_95 hv hO => ?_))
    have s8_95 := hv
    have s1_95 := (hO 1 rfl).trans s1_94
    have s2_95 := (hO 2 rfl).trans s2_94
    clear hO hv hN_94 hD_94 s1_94 s2_94 s58_94 s8_94
    refine tail_nil ?_
    exact ⟨_, by omega, k + 1, rfl, hN_95, hD_95, s1_95, s2_95, (by rw [s8_95, u32_succ]), hE_94, (by have h := hbb1_94; rw [u32_succ] at h; exact h), hbb2_94, by omega⟩
  have hc0 := of_decide_eq_false hc0
  have hk8 : k = 8 := by have := mt (u32_lt8 hk).2 hc0; omega
  refine wp_exit ?_
  refine wp_seq ?_
  refine region_lex [] [(59, Pr.ex (Value.agg #[w32 ((s.rounds k).a), w32 ((s.rounds k).b), w32 ((s.rounds k).c), w32 ((s.rounds k).d), w32 ((s.rounds k).e), w32 ((s.rounds k).f), w32 ((s.rounds k).g), w32 ((s.rounds k).h)]))] 1 hN_4 hD_4 (by kernel_rfl) (by kernel_rfl) ?_ ?_
  · refine Asks.cons ?_ (Asks.zero _)
    · refine Ask.plain rfl rfl ?_
      intro aq wq hNq hO hR hT
      exact does_loadD (o := 0) (n := 8) (mid := [w32 ((s.rounds k).a), w32 ((s.rounds k).b), w32 ((s.rounds k).c), w32 ((s.rounds k).d), w32 ((s.rounds k).e), w32 ((s.rounds k).f), w32 ((s.rounds k).g), w32 ((s.rounds k).h)]) ((hO 1 rfl).trans s1_4) (hbb1_4.ext' hR) rfl rfl (Nat.le_of_ble_eq_true rfl) row_54 rfl ⟨Ext.refl _, rfl⟩
  intro a96 wd96 hN_96 hD_96 hO hR hA hU
  obtain ⟨t59, _⟩ := hA
  have hE_96 := hE_4.trans hR
  have s2_96 := (hO 2 rfl).trans s2_4
  have hbb1_96 := hbb1_4.ext' hR
  have hbb2_96 := hbb2_4.ext' hR
  have s59_96 : get a96 59 = Value.agg #[w32 ((s.rounds k).a), w32 ((s.rounds k).b), w32 ((s.rounds k).c), w32 ((s.rounds k).d), w32 ((s.rounds k).e), w32 ((s.rounds k).f), w32 ((s.rounds k).g), w32 ((s.rounds k).h)] := t59
  clear hE_4 hN_4 hD_4 s1_4 s2_4 s8_4 s9_4 hbb1_4 hbb2_4
  refine tail_none rfl rfl (does_storeD (o := 0) (n := 8) (cs' := [w32 ((s.rounds k).a), w32 ((s.rounds k).b), w32 ((s.rounds k).c), w32 ((s.rounds k).d), w32 ((s.rounds k).e), w32 ((s.rounds k).f), w32 ((s.rounds k).g), w32 ((s.rounds k).h)]) (V := Value.agg #[w32 ((s.rounds k).a), w32 ((s.rounds k).b), w32 ((s.rounds k).c), w32 ((s.rounds k).d), w32 ((s.rounds k).e), w32 ((s.rounds k).f), w32 ((s.rounds k).g), w32 ((s.rounds k).h)]) s2_96 s59_96 hbb2_96 (Nat.le_of_ble_eq_true rfl) rfl siz_54 rfl rfl (fun wd97 hX hz hbb2_97 => ?_))
  have hE_97 := hE_96.since hX (fun k e => e ▸ fr_b2)
  have hbb1_97 := hbb1_96.ext hX ne_b1_b2
  clear hX hz hE_96 hbb1_96 hbb2_96
  refine tail_nil ?_
  refine wp_ret ?_
  refine res_one (V := Value.agg #[w32 ((s.rounds k).a), w32 ((s.rounds k).b), w32 ((s.rounds k).c), w32 ((s.rounds k).d), w32 ((s.rounds k).e), w32 ((s.rounds k).f), w32 ((s.rounds k).g), w32 ((s.rounds k).h)]) rfl hD_96 (ResIs.cell s2_96 hbb2_97 row_54 rfl rfl) ?_
  subst hk8
  exact ⟨rfl, hE_97⟩

end Go.Proofs.YtncamojfjhbanaaDoor
