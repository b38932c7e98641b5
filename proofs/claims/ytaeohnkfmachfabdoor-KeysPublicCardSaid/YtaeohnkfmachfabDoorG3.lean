/- The walks of functions of the program: printed. -/
import Derived.Test.YtaeohnkfmachfabDoorG2
import Derived.Test.YtaeohnkfmachfabDoorG2b
import Derived.Test.YtaeohnkfmachfabDoorF0
set_option maxRecDepth 100000
namespace Go.Proofs.YtaeohnkfmachfabDoor
open Go Go.RowKit Sk Sd
theorem take (f : UInt32) (l : List UInt32) (x1 : Value) (w0 : World) (hL : Laid w0) (hx1 : SlT W32 0 0 l x1 w0) :
    Gives Tryd.prog 61 #[w32 (f), x1] w0 (Pr.ex (Dg.val ((St.first f).takes l).out)) := by
 refine enter (N := 35) Tryd.func61 rfl rfl ?_
 intro a0 hN_0 hD_0 hA
 have s0_0 : get a0 0 = w32 (f) := hA 0 _ rfl
 have s1_0 : get a0 1 = x1 := hA 1 _ rfl
 clear hA
 have hE_0 : Ext w0 w0 := Ext.refl w0
 have hsx1_0 := hx1.close
 refine wp_seq ?_
 refine region_lex [4] [(4, Pr.box' w0.heap.size 24 [w32 (Dg.zero).a, w32 (Dg.zero).b, w32 (Dg.zero).c, w32 (Dg.zero).d])] 1 hN_0 hD_0 (by kernel_rfl) (by kernel_rfl) ?_ ?_
 refine Asks.cons ?_ (Asks.zero _)
 refine Ask.fresh rfl rfl ?_
 intro aq wq hNq hO hR hT
 exact does_alloc zero_24 (fun b w2 he hlo hb => ⟨he, ⟨b, rfl, Nat.le_trans hR.size' hlo, hb⟩, ⟨b, rfl, hlo, hb.lt⟩⟩)
 intro a1 wd1 hN_1 hD_1 hO hR hA hU
 obtain ⟨t4, _⟩ := hA
 have hE_1 := hE_0.trans hR
 have s0_1 := (hO 0 rfl).trans s0_0
 have s1_1 := (hO 1 rfl).trans s1_0
 have hsx1_1 := hsx1_0.ext' hR
 obtain ⟨b4, s4_1, lo_b4, hbb4_1⟩ := t4
 have nb_x1_b4 := SlT.old hsx1_0 lo_b4
 have fr_b4 : w0.heap.size ≤ b4 := Nat.le_trans hE_0.size' lo_b4
 clear hE_0 hN_0 hD_0 s0_0 s1_0 hsx1_0
 refine tail_nil ?_
 refine wp_seq ?_
 refine region_lex [5] [(8, Pr.ex (w32 (f))), (9, Pr.ex (Value.agg #[w32 (f), w32 (0), w32 (0), w32 (0), w32 (0), w32 (0), w32 (0), w32 (0)])), (5, Pr.box' wd1.heap.size 83 [w32 (0), w32 (0), w32 (0), w32 (0), w32 (0), w32 (0), w32 (0), w32 (0)])] 3 hN_1 hD_1 (by kernel_rfl) (by kernel_rfl) ?_ ?_
 refine Asks.cons ?_ (Asks.cons ?_ (Asks.cons ?_ (Asks.zero _)))
 exact Ask.plain rfl rfl fun aq wq hNq hO hR hT => does_move (V := w32 (f)) ((hO 0 rfl).trans s0_1) ⟨Ext.refl _, rfl⟩
 exact Ask.plain rfl rfl fun aq wq hNq hO hR hT => does_build (vs := #[(0, w32 (f))]) (V := Value.agg #[w32 (f), w32 (0), w32 (0), w32 (0), w32 (0), w32 (0), w32 (0), w32 (0)]) (parts1 (hT 8 rfl rfl)) (by kernel_rfl) ⟨Ext.refl _, rfl⟩
 refine Ask.fresh rfl rfl ?_
 intro aq wq hNq hO hR hT
 exact does_alloc zero_83 (fun b w2 he hlo hb => ⟨he, ⟨b, rfl, Nat.le_trans hR.size' hlo, hb⟩, ⟨b, rfl, hlo, hb.lt⟩⟩)
 intro a2 wd2 hN_2 hD_2 hO hR hA hU
 obtain ⟨_, t9, t5, _⟩ := hA
 have hE_2 := hE_1.trans hR
 have s1_2 := (hO 1 rfl).trans s1_1
 have s4_2 := (hO 4 rfl).trans s4_1
 have hbb4_2 := hbb4_1.ext' hR
 have hsx1_2 := hsx1_1.ext' hR
 have s9_2 : get a2 9 = Value.agg #[w32 (f), w32 (0), w32 (0), w32 (0), w32 (0), w32 (0), w32 (0), w32 (0)] := t9
 obtain ⟨b5, s5_2, lo_b5, hbb5_2⟩ := t5
 have ne_b4_b5 : b4 ≠ b5 := fun e => Nat.lt_irrefl _ (Nat.lt_of_lt_of_le hbb4_1.lt (e ▸ lo_b5))
 have nb_x1_b5 := SlT.old hsx1_1 lo_b5
 have fr_b5 : w0.heap.size ≤ b5 := Nat.le_trans hE_1.size' lo_b5
 clear hE_1 hN_1 hD_1 s0_1 s1_1 s4_1 hbb4_1 hsx1_1
 refine tail_none rfl rfl (does_storeD (o := 0) (n := 8) (cs' := [w32 (f), w32 (0), w32 (0), w32 (0), w32 (0), w32 (0), w32 (0), w32 (0)]) (V := Value.agg #[w32 (f), w32 (0), w32 (0), w32 (0), w32 (0), w32 (0), w32 (0), w32 (0)]) s5_2 s9_2 hbb5_2 (Nat.le_of_ble_eq_true rfl) rfl siz_83 rfl rfl (fun wd3 hX hz hbb5_3 => ?_))
 have hE_3 := hE_2.since hX (fun k e => e ▸ fr_b5)
 have hbb4_3 := hbb4_2.ext hX ne_b4_b5
 have hsx1_3 := SlT.over hsx1_2 hX nb_x1_b5
 clear hX hz hE_2 hbb4_2 hbb5_2 hsx1_2
 refine tail_nil ?_
 refine wp_seq ?_
 refine wp_block ?_
 refine loop_g (fun mz az wz => ∃ m : List UInt32, ∃ s : St, ∃ xl : Value, mz = m.length ∧ (az.tmps.size = 35) ∧ (az.defers = []) ∧ (get az 1 = xl) ∧ (get az 4 = Value.pointer (some ⟨b4, 0, none⟩)) ∧ (get az 5 = Value.pointer (some ⟨b5, 0, none⟩)) ∧ (Ext w0 wz) ∧ (Has wz b4 24 [w32 (Dg.zero).a, w32 (Dg.zero).b, w32 (Dg.zero).c, w32 (Dg.zero).d]) ∧ (Has wz b5 83 [w32 (s.a), w32 (s.b), w32 (s.c), w32 (s.d), w32 (s.e), w32 (s.f), w32 (s.g), w32 (s.h)]) ∧ (SlT W32 0 (w0.heap.size + 1) (l) x1 wz) ∧ (SlT W32 0 (w0.heap.size + 1) (m) xl wz) ∧ (s.takes m = (St.first f).takes l)) ?_ ?_
 exact ⟨_, l, (St.first f), x1, rfl, hN_2, hD_2, s1_2, s4_2, s5_2, hE_3, hbb4_3, hbb5_3, hsx1_3, hsx1_3, rfl⟩
 rintro mz a4 wd4 ⟨m, s, xl, rfl, hN_4, hD_4, s1_4, s4_4, s5_4, hE_4, hbb4_4, hbb5_4, hsx1_4, hsxl_4, hm⟩
 refine wp_seq ?_
 refine wp_seq ?_
 refine region_lex [] [(10, Pr.ex (xl)), (11, Pr.ex (i64 ((m.length : Nat) : Int))), (12, Pr.ex (Value.bool (decide (((4 : Nat) : Int) ≤ ((m.length : Nat) : Int)))))] 3 hN_4 hD_4 (by kernel_rfl) (by kernel_rfl) ?_ ?_
 refine Asks.cons ?_ (Asks.cons ?_ (Asks.cons ?_ (Asks.zero _)))
 exact Ask.plain rfl rfl fun aq wq hNq hO hR hT => does_move (V := xl) ((hO 1 rfl).trans s1_4) ⟨Ext.refl _, rfl⟩
 exact Ask.plain rfl rfl fun aq wq hNq hO hR hT => does_len (T := W32) (xs := m) sli_70 (SlT.at (hT 10 rfl rfl) (hsxl_4.ext' hR)) ⟨Ext.refl _, rfl⟩
 exact Ask.plain rfl rfl fun aq wq hNq hO hR hT => does_geq (a := ((m.length : Nat) : Int)) (b := ((4 : Nat) : Int)) (hT 11 rfl rfl) rfl ⟨Ext.refl _, rfl⟩
 intro a5 wd5 hN_5 hD_5 hO hR hA hU
 obtain ⟨_, _, t12, _⟩ := hA
 have hE_5 := hE_4.trans hR
 have s1_5 := (hO 1 rfl).trans s1_4
 have s4_5 := (hO 4 rfl).trans s4_4
 have s5_5 := (hO 5 rfl).trans s5_4
 have hbb4_5 := hbb4_4.ext' hR
 have hbb5_5 := hbb5_4.ext' hR
 have hsx1_5 := hsx1_4.ext' hR
 have hsxl_5 := hsxl_4.ext' hR
 have s12_5 : get a5 12 = Value.bool (decide (((4 : Nat) : Int) ≤ ((m.length : Nat) : Int))) := t12
 clear hE_4 hN_4 hD_4 s1_4 s4_4 s5_4 hbb4_4 hbb5_4 hsx1_4 hsxl_4
 refine tail_nil ?_
 refine wp_if (B := decide (((4 : Nat) : Int) ≤ ((m.length : Nat) : Int))) s12_5 (fun hc0 => ?_) (fun hc0 => ?_)
 have hc0 := of_decide_eq_true hc0
 obtain ⟨p, q, r, t, m', hm4⟩ := four_of (l := m) (by omega)
 have hm5 : (m.take 4).length = 4 := by rw [hm4]; rfl
 refine wp_skip ?_
 refine wp_block ?_
 refine wp_seq ?_
 refine wp_seq ?_
 refine region_lex [] [(13, Pr.ex (xl)), (14, Pr.sl' W32 0 (w0.heap.size + 1) (m.take 4)), (15, Pr.ex (i64 ((4 : Nat) : Int))), (16, Pr.ex (i64 ((0 : Nat) : Int)))] 4 hN_5 hD_5 (by kernel_rfl) (by kernel_rfl) ?_ ?_
 refine Asks.cons ?_ (Asks.cons ?_ (Asks.cons ?_ (Asks.cons ?_ (Asks.zero _))))
 exact Ask.plain rfl rfl fun aq wq hNq hO hR hT => does_move (V := xl) ((hO 1 rfl).trans s1_5) ⟨Ext.refl _, rfl⟩
 exact Ask.plain rfl rfl fun aq wq hNq hO hR hT => does_sliceHi (T := W32) (xs := m) (k := ((4 : Nat) : Int)) sli_70 rfl (SlT.at (hT 13 rfl rfl) (hsxl_5.ext' hR)) rfl (by omega) (by omega) (fun v h => ⟨Ext.refl _, h⟩)
 exact Ask.plain rfl rfl fun aq wq hNq hO hR hT => does_lenN (T := W32) (xs := m.take 4) (n := 4) sli_70 (hT 14 rfl rfl) hm5 ⟨Ext.refl _, rfl⟩
 exact Ask.plain rfl rfl fun aq wq hNq hO hR hT => does_move (V := i64 ((0 : Nat) : Int)) rfl ⟨Ext.refl _, rfl⟩
 intro a6 wd6 hN_6 hD_6 hO hR hA hU
 obtain ⟨_, t14, t15, t16, _⟩ := hA
 have hE_6 := hE_5.trans hR
 have s1_6 := (hO 1 rfl).trans s1_5
 have s4_6 := (hO 4 rfl).trans s4_5
 have s5_6 := (hO 5 rfl).trans s5_5
 have hbb4_6 := hbb4_5.ext' hR
 have hbb5_6 := hbb5_5.ext' hR
 have hsx1_6 := hsx1_5.ext' hR
 have hsxl_6 := hsxl_5.ext' hR
 obtain ⟨x14, s14_6⟩ : ∃ x, get a6 14 = x := ⟨_, rfl⟩
 replace t14 : SlT W32 0 (w0.heap.size + 1) (m.take 4) x14 wd6 := by rw [← s14_6]; exact t14
 have hsx14_6 := t14
 have s15_6 : get a6 15 = i64 ((4 : Nat) : Int) := t15
 have s16_6 : get a6 16 = i64 ((0 : Nat) : Int) := t16
 clear hE_5 hN_5 hD_5 s1_5 s4_5 s5_5 s12_5 hbb4_5 hbb5_5 hsx1_5 hsxl_5
 refine tail_nil ?_
 refine wp_block ?_
 refine loop_rounds 5 ?_
 refine round_step ?_
 refine wp_seq ?_
 refine region_lex [] [(17, Pr.ex (Value.bool (true)))] 1 hN_6 hD_6 (by kernel_rfl) (by kernel_rfl) ?_ ?_
 refine Asks.cons ?_ (Asks.zero _)
 exact Ask.plain rfl rfl fun aq wq hNq hO hR hT => does_lss (a := ((0 : Nat) : Int)) (b := ((4 : Nat) : Int)) ((hO 16 rfl).trans s16_6) ((hO 15 rfl).trans s15_6) ⟨Ext.refl _, rfl⟩
 intro a7 wd7 hN_7 hD_7 hO hR hA hU
 obtain ⟨t17, _⟩ := hA
 have hE_7 := hE_6.trans hR
 have s1_7 := (hO 1 rfl).trans s1_6
 have s4_7 := (hO 4 rfl).trans s4_6
 have s5_7 := (hO 5 rfl).trans s5_6
 have s14_7 := (hO 14 rfl).trans s14_6
 have s15_7 := (hO 15 rfl).trans s15_6
 have s16_7 := (hO 16 rfl).trans s16_6
 have hbb4_7 := hbb4_6.ext' hR
 have hbb5_7 := hbb5_6.ext' hR
 have hsx1_7 := hsx1_6.ext' hR
 have hsxl_7 := hsxl_6.ext' hR
 have hsx14_7 := hsx14_6.ext' hR
 have s17_7 : get a7 17 = Value.bool (true) := t17
 clear hE_6 hN_6 hD_6 s1_6 s4_6 s5_6 s14_6 s15_6 s16_6 hbb4_6 hbb5_6 hsx1_6 hsxl_6 hsx14_6
 refine tail_nil ?_
 refine wp_seq ?_
 refine wp_ifT s17_7 ?_
 refine wp_skip ?_
 refine wp_seq ?_
 refine wp_block ?_
 refine wp_seq ?_
 refine region_lex [] [(18, Pr.ex (i64 ((0 : Nat) : Int))), (19, Pr.pt' 0 (w0.heap.size + 1) [w32 (p)]), (20, Pr.ex (w32 (p))), (6, Pr.ex (i64 ((0 : Nat) : Int))), (7, Pr.ex (w32 (p)))] 5 hN_7 hD_7 (by kernel_rfl) (by kernel_rfl) ?_ ?_
 refine Asks.cons ?_ (Asks.cons ?_ (Asks.cons ?_ (Asks.cons ?_ (Asks.cons ?_ (Asks.zero _)))))
 exact Ask.plain rfl rfl fun aq wq hNq hO hR hT => does_move (V := i64 ((0 : Nat) : Int)) ((hO 16 rfl).trans s16_7) ⟨Ext.refl _, rfl⟩
 exact Ask.plain rfl rfl fun aq wq hNq hO hR hT => does_indexSl (T := W32) (xs := m.take 4) (i := ((0 : Nat) : Int)) (X := p) sli_70 rfl (SlT.at ((hO 14 rfl).trans s14_7) (hsx14_7.ext' hR)) ((hO 16 rfl).trans s16_7) (by omega) (by rw [hm4]; rfl) (fun v h => ⟨Ext.refl _, h⟩)
 exact Ask.plain rfl rfl fun aq wq hNq hO hR hT => does_loadP1 (V := w32 (p)) (hT 19 rfl rfl) one_22 ⟨Ext.refl _, rfl⟩
 exact Ask.plain rfl rfl fun aq wq hNq hO hR hT => does_assign (V := i64 ((0 : Nat) : Int)) (hT 18 rfl rfl) ⟨Ext.refl _, rfl⟩
 exact Ask.plain rfl rfl fun aq wq hNq hO hR hT => does_assign (V := w32 (p)) (hT 20 rfl rfl) ⟨Ext.refl _, rfl⟩
 intro a8 wd8 hN_8 hD_8 hO hR hA hU
 obtain ⟨_, _, _, t6, t7, _⟩ := hA
 have hE_8 := hE_7.trans hR
 have s1_8 := (hO 1 rfl).trans s1_7
 have s4_8 := (hO 4 rfl).trans s4_7
 have s5_8 := (hO 5 rfl).trans s5_7
 have s14_8 := (hO 14 rfl).trans s14_7
 have s15_8 := (hO 15 rfl).trans s15_7
 have s16_8 := (hO 16 rfl).trans s16_7
 have hbb4_8 := hbb4_7.ext' hR
 have hbb5_8 := hbb5_7.ext' hR
 have hsx1_8 := hsx1_7.ext' hR
 have hsxl_8 := hsxl_7.ext' hR
 have hsx14_8 := hsx14_7.ext' hR
 have s6_8 : get a8 6 = i64 ((0 : Nat) : Int) := t6
 have s7_8 : get a8 7 = w32 (p) := t7
 clear hE_7 hN_7 hD_7 s1_7 s4_7 s5_7 s14_7 s15_7 s16_7 s17_7 hbb4_7 hbb5_7 hsx1_7 hsxl_7 hsx14_7
 refine tail_nil ?_
 refine region_lex [] [(21, Pr.ex (i64 ((0 : Nat) : Int))), (22, Pr.ex (Value.pointer (some ⟨b5, 0, none⟩))), (23, Pr.ex (w32 (s.a))), (24, Pr.ex (w32 (p))), (25, Pr.ex (w32 ((s.a : UInt32) ^^^ (p : UInt32)))), (26, Pr.ex (Value.pointer (some ⟨b5, 0, none⟩)))] 6 hN_8 hD_8 (by kernel_rfl) (by kernel_rfl) ?_ ?_
 refine Asks.cons ?_ (Asks.cons ?_ (Asks.cons ?_ (Asks.cons ?_ (Asks.cons ?_ (Asks.cons ?_ (Asks.zero _))))))
 exact Ask.plain rfl rfl fun aq wq hNq hO hR hT => does_move (V := i64 ((0 : Nat) : Int)) ((hO 6 rfl).trans s6_8) ⟨Ext.refl _, rfl⟩
 exact Ask.plain rfl rfl fun aq wq hNq hO hR hT => does_indexArr (k := .i64) (i := 0) (o' := 0) arr_83 ((hO 5 rfl).trans s5_8) (hT 21 rfl rfl) (by decide) (by decide) rfl ⟨Ext.refl _, rfl⟩
 exact Ask.plain rfl rfl fun aq wq hNq hO hR hT => does_loadD1 (o := 0) (V := w32 (s.a)) (hT 22 rfl rfl) (hbb5_8.ext' hR) rfl one_22 ⟨Ext.refl _, rfl⟩
 exact Ask.plain rfl rfl fun aq wq hNq hO hR hT => does_move (V := w32 (p)) ((hO 7 rfl).trans s7_8) ⟨Ext.refl _, rfl⟩
 exact Ask.plain rfl rfl fun aq wq hNq hO hR hT => does_xor32 (a := (s.a : UInt32)) (b := (p : UInt32)) (hT 23 rfl rfl) (hT 24 rfl rfl) ⟨Ext.refl _, rfl⟩
 exact Ask.plain rfl rfl fun aq wq hNq hO hR hT => does_indexArr (k := .i64) (i := 0) (o' := 0) arr_83 ((hO 5 rfl).trans s5_8) (hT 21 rfl rfl) (by decide) (by decide) rfl ⟨Ext.refl _, rfl⟩
 intro a9 wd9 hN_9 hD_9 hO hR hA hU
 obtain ⟨_, _, _, _, t25, t26, _⟩ := hA
 have hE_9 := hE_8.trans hR
 have s1_9 := (hO 1 rfl).trans s1_8
 have s4_9 := (hO 4 rfl).trans s4_8
 have s5_9 := (hO 5 rfl).trans s5_8
 have s14_9 := (hO 14 rfl).trans s14_8
 have s15_9 := (hO 15 rfl).trans s15_8
 have s16_9 := (hO 16 rfl).trans s16_8
 have hbb4_9 := hbb4_8.ext' hR
 have hbb5_9 := hbb5_8.ext' hR
 have hsx1_9 := hsx1_8.ext' hR
 have hsxl_9 := hsxl_8.ext' hR
 have hsx14_9 := hsx14_8.ext' hR
 have s25_9 : get a9 25 = w32 ((s.a : UInt32) ^^^ (p : UInt32)) := t25
 have s26_9 : get a9 26 = Value.pointer (some ⟨b5, 0, none⟩) := t26
 clear hE_8 hN_8 hD_8 s1_8 s4_8 s5_8 s6_8 s7_8 s14_8 s15_8 s16_8 hbb4_8 hbb5_8 hsx1_8 hsxl_8 hsx14_8
 refine tail_none rfl rfl (does_storeD (o := 0) (n := 1) (cs' := [w32 ((s.a : UInt32) ^^^ (p : UInt32)), w32 (s.b), w32 (s.c), w32 (s.d), w32 (s.e), w32 (s.f), w32 (s.g), w32 (s.h)]) (V := w32 ((s.a : UInt32) ^^^ (p : UInt32))) s26_9 s25_9 hbb5_9 (Nat.le_of_ble_eq_true rfl) rfl siz_22 rfl rfl (fun wd10 hX hz hbb5_10 => ?_))
 have hE_10 := hE_9.since hX (fun k e => e ▸ fr_b5)
 have hbb4_10 := hbb4_9.ext hX ne_b4_b5
 have hsx1_10 := SlT.over hsx1_9 hX nb_x1_b5
 have hsxl_10 := SlT.over hsxl_9 hX (SlT.low hsxl_9 fr_b5)
 have hsx14_10 := SlT.over hsx14_9 hX (SlT.low hsx14_9 fr_b5)
 clear hX hz hE_9 hbb4_9 hbb5_9 hsx1_9 hsxl_9 hsx14_9
 refine tail_nil ?_
 refine region_lex [] [(27, Pr.ex (i64 ((1 : Nat) : Int)))] 1 hN_9 hD_9 (by kernel_rfl) (by kernel_rfl) ?_ ?_
 refine Asks.cons ?_ (Asks.zero _)
 exact Ask.plain rfl rfl fun aq wq hNq hO hR hT => does_add (a := ((0 : Nat) : Int)) (b := ((1 : Nat) : Int)) (r := ((1 : Nat) : Int)) ((hO 16 rfl).trans s16_9) rfl (by decide) (by decide) (by decide) ⟨Ext.refl _, rfl⟩
 intro a11 wd11 hN_11 hD_11 hO hR hA hU
 obtain ⟨t27, _⟩ := hA
 have hE_11 := hE_10.trans hR
 have s1_11 := (hO 1 rfl).trans s1_9
 have s4_11 := (hO 4 rfl).trans s4_9
 have s5_11 := (hO 5 rfl).trans s5_9
 have s14_11 := (hO 14 rfl).trans s14_9
 have s15_11 := (hO 15 rfl).trans s15_9
 have s16_11 := (hO 16 rfl).trans s16_9
 have hbb4_11 := hbb4_10.ext' hR
 have hbb5_11 := hbb5_10.ext' hR
 have hsx1_11 := hsx1_10.ext' hR
 have hsxl_11 := hsxl_10.ext' hR
 have hsx14_11 := hsx14_10.ext' hR
 have s27_11 : get a11 27 = i64 ((1 : Nat) : Int) := t27
 clear hE_10 hN_9 hD_9 s1_9 s4_9 s5_9 s14_9 s15_9 s16_9 s25_9 s26_9 hbb4_10 hbb5_10 hsx1_10 hsxl_10 hsx14_10
 refine tail_put rfl rfl hN_11 hD_11 (by decide) (does_move (V := i64 ((1 : Nat) : Int)) s27_11 (fun a12 hN_12 hD_12 hv hO => ?_))
 have s16_12 := hv
 have s1_12 := (hO 1 rfl).trans s1_11
 have s4_12 := (hO 4 rfl).trans s4_11
 have s5_12 := (hO 5 rfl).trans s5_11
 have s14_12 := (hO 14 rfl).trans s14_11
 have s15_12 := (hO 15 rfl).trans s15_11
 clear hO hv hN_11 hD_11 s1_11 s4_11 s5_11 s14_11 s15_11 s27_11 s16_11
 refine tail_nil ?_
 refine round_step ?_
 refine wp_seq ?_
 refine region_lex [] [(17, Pr.ex (Value.bool (true)))] 1 hN_12 hD_12 (by kernel_rfl) (by kernel_rfl) ?_ ?_
 refine Asks.cons ?_ (Asks.zero _)
 exact Ask.plain rfl rfl fun aq wq hNq hO hR hT => does_lss (a := ((1 : Nat) : Int)) (b := ((4 : Nat) : Int)) ((hO 16 rfl).trans s16_12) ((hO 15 rfl).trans s15_12) ⟨Ext.refl _, rfl⟩
 intro a13 wd13 hN_13 hD_13 hO hR hA hU
 obtain ⟨t17, _⟩ := hA
 have hE_13 := hE_11.trans hR
 have s1_13 := (hO 1 rfl).trans s1_12
 have s4_13 := (hO 4 rfl).trans s4_12
 have s5_13 := (hO 5 rfl).trans s5_12
 have s14_13 := (hO 14 rfl).trans s14_12
 have s15_13 := (hO 15 rfl).trans s15_12
 have s16_13 := (hO 16 rfl).trans s16_12
 have hbb4_13 := hbb4_11.ext' hR
 have hbb5_13 := hbb5_11.ext' hR
 have hsx1_13 := hsx1_11.ext' hR
 have hsxl_13 := hsxl_11.ext' hR
 have hsx14_13 := hsx14_11.ext' hR
 have s17_13 : get a13 17 = Value.bool (true) := t17
 clear hE_11 hN_12 hD_12 s1_12 s4_12 s5_12 s14_12 s15_12 s16_12 hbb4_11 hbb5_11 hsx1_11 hsxl_11 hsx14_11
 refine tail_nil ?_
 refine wp_seq ?_
 refine wp_ifT s17_13 ?_
 refine wp_skip ?_
 refine wp_seq ?_
 refine wp_block ?_
 refine wp_seq ?_
 refine region_lex [] [(18, Pr.ex (i64 ((1 : Nat) : Int))), (19, Pr.pt' 0 (w0.heap.size + 1) [w32 (q)]), (20, Pr.ex (w32 (q))), (6, Pr.ex (i64 ((1 : Nat) : Int))), (7, Pr.ex (w32 (q)))] 5 hN_13 hD_13 (by kernel_rfl) (by kernel_rfl) ?_ ?_
 refine Asks.cons ?_ (Asks.cons ?_ (Asks.cons ?_ (Asks.cons ?_ (Asks.cons ?_ (Asks.zero _)))))
 exact Ask.plain rfl rfl fun aq wq hNq hO hR hT => does_move (V := i64 ((1 : Nat) : Int)) ((hO 16 rfl).trans s16_13) ⟨Ext.refl _, rfl⟩
 exact Ask.plain rfl rfl fun aq wq hNq hO hR hT => does_indexSl (T := W32) (xs := m.take 4) (i := ((1 : Nat) : Int)) (X := q) sli_70 rfl (SlT.at ((hO 14 rfl).trans s14_13) (hsx14_13.ext' hR)) ((hO 16 rfl).trans s16_13) (by omega) (by rw [hm4]; rfl) (fun v h => ⟨Ext.refl _, h⟩)
 exact Ask.plain rfl rfl fun aq wq hNq hO hR hT => does_loadP1 (V := w32 (q)) (hT 19 rfl rfl) one_22 ⟨Ext.refl _, rfl⟩
 exact Ask.plain rfl rfl fun aq wq hNq hO hR hT => does_assign (V := i64 ((1 : Nat) : Int)) (hT 18 rfl rfl) ⟨Ext.refl _, rfl⟩
 exact Ask.plain rfl rfl fun aq wq hNq hO hR hT => does_assign (V := w32 (q)) (hT 20 rfl rfl) ⟨Ext.refl _, rfl⟩
 intro a14 wd14 hN_14 hD_14 hO hR hA hU
 obtain ⟨_, _, _, t6, t7, _⟩ := hA
 have hE_14 := hE_13.trans hR
 have s1_14 := (hO 1 rfl).trans s1_13
 have s4_14 := (hO 4 rfl).trans s4_13
 have s5_14 := (hO 5 rfl).trans s5_13
 have s14_14 := (hO 14 rfl).trans s14_13
 have s15_14 := (hO 15 rfl).trans s15_13
 have s16_14 := (hO 16 rfl).trans s16_13
 have hbb4_14 := hbb4_13.ext' hR
 have hbb5_14 := hbb5_13.ext' hR
 have hsx1_14 := hsx1_13.ext' hR
 have hsxl_14 := hsxl_13.ext' hR
 have hsx14_14 := hsx14_13.ext' hR
 have s6_14 : get a14 6 = i64 ((1 : Nat) : Int) := t6
 have s7_14 : get a14 7 = w32 (q) := t7
 clear hE_13 hN_13 hD_13 s1_13 s4_13 s5_13 s14_13 s15_13 s16_13 s17_13 hbb4_13 hbb5_13 hsx1_13 hsxl_13 hsx14_13
 refine tail_nil ?_
 refine region_lex [] [(21, Pr.ex (i64 ((1 : Nat) : Int))), (22, Pr.ex (Value.pointer (some ⟨b5, 1, none⟩))), (23, Pr.ex (w32 (s.b))), (24, Pr.ex (w32 (q))), (25, Pr.ex (w32 ((s.b : UInt32) ^^^ (q : UInt32)))), (26, Pr.ex (Value.pointer (some ⟨b5, 1, none⟩)))] 6 hN_14 hD_14 (by kernel_rfl) (by kernel_rfl) ?_ ?_
 refine Asks.cons ?_ (Asks.cons ?_ (Asks.cons ?_ (Asks.cons ?_ (Asks.cons ?_ (Asks.cons ?_ (Asks.zero _))))))
 exact Ask.plain rfl rfl fun aq wq hNq hO hR hT => does_move (V := i64 ((1 : Nat) : Int)) ((hO 6 rfl).trans s6_14) ⟨Ext.refl _, rfl⟩
 exact Ask.plain rfl rfl fun aq wq hNq hO hR hT => does_indexArr (k := .i64) (i := 1) (o' := 1) arr_83 ((hO 5 rfl).trans s5_14) (hT 21 rfl rfl) (by decide) (by decide) rfl ⟨Ext.refl _, rfl⟩
 exact Ask.plain rfl rfl fun aq wq hNq hO hR hT => does_loadD1 (o := 1) (V := w32 (s.b)) (hT 22 rfl rfl) (hbb5_14.ext' hR) rfl one_22 ⟨Ext.refl _, rfl⟩
 exact Ask.plain rfl rfl fun aq wq hNq hO hR hT => does_move (V := w32 (q)) ((hO 7 rfl).trans s7_14) ⟨Ext.refl _, rfl⟩
 exact Ask.plain rfl rfl fun aq wq hNq hO hR hT => does_xor32 (a := (s.b : UInt32)) (b := (q : UInt32)) (hT 23 rfl rfl) (hT 24 rfl rfl) ⟨Ext.refl _, rfl⟩
 exact Ask.plain rfl rfl fun aq wq hNq hO hR hT => does_indexArr (k := .i64) (i := 1) (o' := 1) arr_83 ((hO 5 rfl).trans s5_14) (hT 21 rfl rfl) (by decide) (by decide) rfl ⟨Ext.refl _, rfl⟩
 intro a15 wd15 hN_15 hD_15 hO hR hA hU
 obtain ⟨_, _, _, _, t25, t26, _⟩ := hA
 have hE_15 := hE_14.trans hR
 have s1_15 := (hO 1 rfl).trans s1_14
 have s4_15 := (hO 4 rfl).trans s4_14
 have s5_15 := (hO 5 rfl).trans s5_14
 have s14_15 := (hO 14 rfl).trans s14_14
 have s15_15 := (hO 15 rfl).trans s15_14
 have s16_15 := (hO 16 rfl).trans s16_14
 have hbb4_15 := hbb4_14.ext' hR
 have hbb5_15 := hbb5_14.ext' hR
 have hsx1_15 := hsx1_14.ext' hR
 have hsxl_15 := hsxl_14.ext' hR
 have hsx14_15 := hsx14_14.ext' hR
 have s25_15 : get a15 25 = w32 ((s.b : UInt32) ^^^ (q : UInt32)) := t25
 have s26_15 : get a15 26 = Value.pointer (some ⟨b5, 1, none⟩) := t26
 clear hE_14 hN_14 hD_14 s1_14 s4_14 s5_14 s6_14 s7_14 s14_14 s15_14 s16_14 hbb4_14 hbb5_14 hsx1_14 hsxl_14 hsx14_14
 refine tail_none rfl rfl (does_storeD (o := 1) (n := 1) (cs' := [w32 ((s.a : UInt32) ^^^ (p : UInt32)), w32 ((s.b : UInt32) ^^^ (q : UInt32)), w32 (s.c), w32 (s.d), w32 (s.e), w32 (s.f), w32 (s.g), w32 (s.h)]) (V := w32 ((s.b : UInt32) ^^^ (q : UInt32))) s26_15 s25_15 hbb5_15 (Nat.le_of_ble_eq_true rfl) rfl siz_22 rfl rfl (fun wd16 hX hz hbb5_16 => ?_))
 have hE_16 := hE_15.since hX (fun k e => e ▸ fr_b5)
 have hbb4_16 := hbb4_15.ext hX ne_b4_b5
 have hsx1_16 := SlT.over hsx1_15 hX nb_x1_b5
 have hsxl_16 := SlT.over hsxl_15 hX (SlT.low hsxl_15 fr_b5)
 have hsx14_16 := SlT.over hsx14_15 hX (SlT.low hsx14_15 fr_b5)
 clear hX hz hE_15 hbb4_15 hbb5_15 hsx1_15 hsxl_15 hsx14_15
 refine tail_nil ?_
 refine region_lex [] [(27, Pr.ex (i64 ((2 : Nat) : Int)))] 1 hN_15 hD_15 (by kernel_rfl) (by kernel_rfl) ?_ ?_
 refine Asks.cons ?_ (Asks.zero _)
 exact Ask.plain rfl rfl fun aq wq hNq hO hR hT => does_add (a := ((1 : Nat) : Int)) (b := ((1 : Nat) : Int)) (r := ((2 : Nat) : Int)) ((hO 16 rfl).trans s16_15) rfl (by decide) (by decide) (by decide) ⟨Ext.refl _, rfl⟩
 intro a17 wd17 hN_17 hD_17 hO hR hA hU
 obtain ⟨t27, _⟩ := hA
 have hE_17 := hE_16.trans hR
 have s1_17 := (hO 1 rfl).trans s1_15
 have s4_17 := (hO 4 rfl).trans s4_15
 have s5_17 := (hO 5 rfl).trans s5_15
 have s14_17 := (hO 14 rfl).trans s14_15
 have s15_17 := (hO 15 rfl).trans s15_15
 have s16_17 := (hO 16 rfl).trans s16_15
 have hbb4_17 := hbb4_16.ext' hR
 have hbb5_17 := hbb5_16.ext' hR
 have hsx1_17 := hsx1_16.ext' hR
 have hsxl_17 := hsxl_16.ext' hR
 have hsx14_17 := hsx14_16.ext' hR
 have s27_17 : get a17 27 = i64 ((2 : Nat) : Int) := t27
 clear hE_16 hN_15 hD_15 s1_15 s4_15 s5_15 s14_15 s15_15 s16_15 s25_15 s26_15 hbb4_16 hbb5_16 hsx1_16 hsxl_16 hsx14_16
 refine tail_put rfl rfl hN_17 hD_17 (by decide) (does_move (V := i64 ((2 : Nat) : Int)) s27_17 (fun a18 hN_18 hD_18 hv hO => ?_))
 have s16_18 := hv
 have s1_18 := (hO 1 rfl).trans s1_17
 have s4_18 := (hO 4 rfl).trans s4_17
 have s5_18 := (hO 5 rfl).trans s5_17
 have s14_18 := (hO 14 rfl).trans s14_17
 have s15_18 := (hO 15 rfl).trans s15_17
 clear hO hv hN_17 hD_17 s1_17 s4_17 s5_17 s14_17 s15_17 s27_17 s16_17
 refine tail_nil ?_
 refine round_step ?_
 refine wp_seq ?_
 refine region_lex [] [(17, Pr.ex (Value.bool (true)))] 1 hN_18 hD_18 (by kernel_rfl) (by kernel_rfl) ?_ ?_
 refine Asks.cons ?_ (Asks.zero _)
 exact Ask.plain rfl rfl fun aq wq hNq hO hR hT => does_lss (a := ((2 : Nat) : Int)) (b := ((4 : Nat) : Int)) ((hO 16 rfl).trans s16_18) ((hO 15 rfl).trans s15_18) ⟨Ext.refl _, rfl⟩
 intro a19 wd19 hN_19 hD_19 hO hR hA hU
 obtain ⟨t17, _⟩ := hA
 have hE_19 := hE_17.trans hR
 have s1_19 := (hO 1 rfl).trans s1_18
 have s4_19 := (hO 4 rfl).trans s4_18
 have s5_19 := (hO 5 rfl).trans s5_18
 have s14_19 := (hO 14 rfl).trans s14_18
 have s15_19 := (hO 15 rfl).trans s15_18
 have s16_19 := (hO 16 rfl).trans s16_18
 have hbb4_19 := hbb4_17.ext' hR
 have hbb5_19 := hbb5_17.ext' hR
 have hsx1_19 := hsx1_17.ext' hR
 have hsxl_19 := hsxl_17.ext' hR
 have hsx14_19 := hsx14_17.ext' hR
 have s17_19 : get a19 17 = Value.bool (true) := t17
 clear hE_17 hN_18 hD_18 s1_18 s4_18 s5_18 s14_18 s15_18 s16_18 hbb4_17 hbb5_17 hsx1_17 hsxl_17 hsx14_17
 refine tail_nil ?_
 refine wp_seq ?_
 refine wp_ifT s17_19 ?_
 refine wp_skip ?_
 refine wp_seq ?_
 refine wp_block ?_
 refine wp_seq ?_
 refine region_lex [] [(18, Pr.ex (i64 ((2 : Nat) : Int))), (19, Pr.pt' 0 (w0.heap.size + 1) [w32 (r)]), (20, Pr.ex (w32 (r))), (6, Pr.ex (i64 ((2 : Nat) : Int))), (7, Pr.ex (w32 (r)))] 5 hN_19 hD_19 (by kernel_rfl) (by kernel_rfl) ?_ ?_
 refine Asks.cons ?_ (Asks.cons ?_ (Asks.cons ?_ (Asks.cons ?_ (Asks.cons ?_ (Asks.zero _)))))
 exact Ask.plain rfl rfl fun aq wq hNq hO hR hT => does_move (V := i64 ((2 : Nat) : Int)) ((hO 16 rfl).trans s16_19) ⟨Ext.refl _, rfl⟩
 exact Ask.plain rfl rfl fun aq wq hNq hO hR hT => does_indexSl (T := W32) (xs := m.take 4) (i := ((2 : Nat) : Int)) (X := r) sli_70 rfl (SlT.at ((hO 14 rfl).trans s14_19) (hsx14_19.ext' hR)) ((hO 16 rfl).trans s16_19) (by omega) (by rw [hm4]; rfl) (fun v h => ⟨Ext.refl _, h⟩)
 exact Ask.plain rfl rfl fun aq wq hNq hO hR hT => does_loadP1 (V := w32 (r)) (hT 19 rfl rfl) one_22 ⟨Ext.refl _, rfl⟩
 exact Ask.plain rfl rfl fun aq wq hNq hO hR hT => does_assign (V := i64 ((2 : Nat) : Int)) (hT 18 rfl rfl) ⟨Ext.refl _, rfl⟩
 exact Ask.plain rfl rfl fun aq wq hNq hO hR hT => does_assign (V := w32 (r)) (hT 20 rfl rfl) ⟨Ext.refl _, rfl⟩
 intro a20 wd20 hN_20 hD_20 hO hR hA hU
 obtain ⟨_, _, _, t6, t7, _⟩ := hA
 have hE_20 := hE_19.trans hR
 have s1_20 := (hO 1 rfl).trans s1_19
 have s4_20 := (hO 4 rfl).trans s4_19
 have s5_20 := (hO 5 rfl).trans s5_19
 have s14_20 := (hO 14 rfl).trans s14_19
 have s15_20 := (hO 15 rfl).trans s15_19
 have s16_20 := (hO 16 rfl).trans s16_19
 have hbb4_20 := hbb4_19.ext' hR
 have hbb5_20 := hbb5_19.ext' hR
 have hsx1_20 := hsx1_19.ext' hR
 have hsxl_20 := hsxl_19.ext' hR
 have hsx14_20 := hsx14_19.ext' hR
 have s6_20 : get a20 6 = i64 ((2 : Nat) : Int) := t6
 have s7_20 : get a20 7 = w32 (r) := t7
 clear hE_19 hN_19 hD_19 s1_19 s4_19 s5_19 s14_19 s15_19 s16_19 s17_19 hbb4_19 hbb5_19 hsx1_19 hsxl_19 hsx14_19
 refine tail_nil ?_
 refine region_lex [] [(21, Pr.ex (i64 ((2 : Nat) : Int))), (22, Pr.ex (Value.pointer (some ⟨b5, 2, none⟩))), (23, Pr.ex (w32 (s.c))), (24, Pr.ex (w32 (r))), (25, Pr.ex (w32 ((s.c : UInt32) ^^^ (r : UInt32)))), (26, Pr.ex (Value.pointer (some ⟨b5, 2, none⟩)))] 6 hN_20 hD_20 (by kernel_rfl) (by kernel_rfl) ?_ ?_
 refine Asks.cons ?_ (Asks.cons ?_ (Asks.cons ?_ (Asks.cons ?_ (Asks.cons ?_ (Asks.cons ?_ (Asks.zero _))))))
 exact Ask.plain rfl rfl fun aq wq hNq hO hR hT => does_move (V := i64 ((2 : Nat) : Int)) ((hO 6 rfl).trans s6_20) ⟨Ext.refl _, rfl⟩
 exact Ask.plain rfl rfl fun aq wq hNq hO hR hT => does_indexArr (k := .i64) (i := 2) (o' := 2) arr_83 ((hO 5 rfl).trans s5_20) (hT 21 rfl rfl) (by decide) (by decide) rfl ⟨Ext.refl _, rfl⟩
 exact Ask.plain rfl rfl fun aq wq hNq hO hR hT => does_loadD1 (o := 2) (V := w32 (s.c)) (hT 22 rfl rfl) (hbb5_20.ext' hR) rfl one_22 ⟨Ext.refl _, rfl⟩
 exact Ask.plain rfl rfl fun aq wq hNq hO hR hT => does_move (V := w32 (r)) ((hO 7 rfl).trans s7_20) ⟨Ext.refl _, rfl⟩
 exact Ask.plain rfl rfl fun aq wq hNq hO hR hT => does_xor32 (a := (s.c : UInt32)) (b := (r : UInt32)) (hT 23 rfl rfl) (hT 24 rfl rfl) ⟨Ext.refl _, rfl⟩
 exact Ask.plain rfl rfl fun aq wq hNq hO hR hT => does_indexArr (k := .i64) (i := 2) (o' := 2) arr_83 ((hO 5 rfl).trans s5_20) (hT 21 rfl rfl) (by decide) (by decide) rfl ⟨Ext.refl _, rfl⟩
 intro a21 wd21 hN_21 hD_21 hO hR hA hU
 obtain ⟨_, _, _, _, t25, t26, _⟩ := hA
 have hE_21 := hE_20.trans hR
 have s1_21 := (hO 1 rfl).trans s1_20
 have s4_21 := (hO 4 rfl).trans s4_20
 have s5_21 := (hO 5 rfl).trans s5_20
 have s14_21 := (hO 14 rfl).trans s14_20
 have s15_21 := (hO 15 rfl).trans s15_20
 have s16_21 := (hO 16 rfl).trans s16_20
 have hbb4_21 := hbb4_20.ext' hR
 have hbb5_21 := hbb5_20.ext' hR
 have hsx1_21 := hsx1_20.ext' hR
 have hsxl_21 := hsxl_20.ext' hR
 have hsx14_21 := hsx14_20.ext' hR
 have s25_21 : get a21 25 = w32 ((s.c : UInt32) ^^^ (r : UInt32)) := t25
 have s26_21 : get a21 26 = Value.pointer (some ⟨b5, 2, none⟩) := t26
 clear hE_20 hN_20 hD_20 s1_20 s4_20 s5_20 s6_20 s7_20 s14_20 s15_20 s16_20 hbb4_20 hbb5_20 hsx1_20 hsxl_20 hsx14_20
 refine tail_none rfl rfl (does_storeD (o := 2) (n := 1) (cs' := [w32 ((s.a : UInt32) ^^^ (p : UInt32)), w32 ((s.b : UInt32) ^^^ (q : UInt32)), w32 ((s.c : UInt32) ^^^ (r : UInt32)), w32 (s.d), w32 (s.e), w32 (s.f), w32 (s.g), w32 (s.h)]) (V := w32 ((s.c : UInt32) ^^^ (r : UInt32))) s26_21 s25_21 hbb5_21 (Nat.le_of_ble_eq_true rfl) rfl siz_22 rfl rfl (fun wd22 hX hz hbb5_22 => ?_))
 have hE_22 := hE_21.since hX (fun k e => e ▸ fr_b5)
 have hbb4_22 := hbb4_21.ext hX ne_b4_b5
 have hsx1_22 := SlT.over hsx1_21 hX nb_x1_b5
 have hsxl_22 := SlT.over hsxl_21 hX (SlT.low hsxl_21 fr_b5)
 have hsx14_22 := SlT.over hsx14_21 hX (SlT.low hsx14_21 fr_b5)
 clear hX hz hE_21 hbb4_21 hbb5_21 hsx1_21 hsxl_21 hsx14_21
 refine tail_nil ?_
 refine region_lex [] [(27, Pr.ex (i64 ((3 : Nat) : Int)))] 1 hN_21 hD_21 (by kernel_rfl) (by kernel_rfl) ?_ ?_
 refine Asks.cons ?_ (Asks.zero _)
 exact Ask.plain rfl rfl fun aq wq hNq hO hR hT => does_add (a := ((2 : Nat) : Int)) (b := ((1 : Nat) : Int)) (r := ((3 : Nat) : Int)) ((hO 16 rfl).trans s16_21) rfl (by decide) (by decide) (by decide) ⟨Ext.refl _, rfl⟩
 intro a23 wd23 hN_23 hD_23 hO hR hA hU
 obtain ⟨t27, _⟩ := hA
 have hE_23 := hE_22.trans hR
 have s1_23 := (hO 1 rfl).trans s1_21
 have s4_23 := (hO 4 rfl).trans s4_21
 have s5_23 := (hO 5 rfl).trans s5_21
 have s14_23 := (hO 14 rfl).trans s14_21
 have s15_23 := (hO 15 rfl).trans s15_21
 have s16_23 := (hO 16 rfl).trans s16_21
 have hbb4_23 := hbb4_22.ext' hR
 have hbb5_23 := hbb5_22.ext' hR
 have hsx1_23 := hsx1_22.ext' hR
 have hsxl_23 := hsxl_22.ext' hR
 have hsx14_23 := hsx14_22.ext' hR
 have s27_23 : get a23 27 = i64 ((3 : Nat) : Int) := t27
 clear hE_22 hN_21 hD_21 s1_21 s4_21 s5_21 s14_21 s15_21 s16_21 s25_21 s26_21 hbb4_22 hbb5_22 hsx1_22 hsxl_22 hsx14_22
 refine tail_put rfl rfl hN_23 hD_23 (by decide) (does_move (V := i64 ((3 : Nat) : Int)) s27_23 (fun a24 hN_24 hD_24 hv hO => ?_))
 have s16_24 := hv
 have s1_24 := (hO 1 rfl).trans s1_23
 have s4_24 := (hO 4 rfl).trans s4_23
 have s5_24 := (hO 5 rfl).trans s5_23
 have s14_24 := (hO 14 rfl).trans s14_23
 have s15_24 := (hO 15 rfl).trans s15_23
 clear hO hv hN_23 hD_23 s1_23 s4_23 s5_23 s14_23 s15_23 s27_23 s16_23
 refine tail_nil ?_
 refine round_step ?_
 refine wp_seq ?_
 refine region_lex [] [(17, Pr.ex (Value.bool (true)))] 1 hN_24 hD_24 (by kernel_rfl) (by kernel_rfl) ?_ ?_
 refine Asks.cons ?_ (Asks.zero _)
 exact Ask.plain rfl rfl fun aq wq hNq hO hR hT => does_lss (a := ((3 : Nat) : Int)) (b := ((4 : Nat) : Int)) ((hO 16 rfl).trans s16_24) ((hO 15 rfl).trans s15_24) ⟨Ext.refl _, rfl⟩
 intro a25 wd25 hN_25 hD_25 hO hR hA hU
 obtain ⟨t17, _⟩ := hA
 have hE_25 := hE_23.trans hR
 have s1_25 := (hO 1 rfl).trans s1_24
 have s4_25 := (hO 4 rfl).trans s4_24
 have s5_25 := (hO 5 rfl).trans s5_24
 have s14_25 := (hO 14 rfl).trans s14_24
 have s15_25 := (hO 15 rfl).trans s15_24
 have s16_25 := (hO 16 rfl).trans s16_24
 have hbb4_25 := hbb4_23.ext' hR
 have hbb5_25 := hbb5_23.ext' hR
 have hsx1_25 := hsx1_23.ext' hR
 have hsxl_25 := hsxl_23.ext' hR
 have hsx14_25 := hsx14_23.ext' hR
 have s17_25 : get a25 17 = Value.bool (true) := t17
 clear hE_23 hN_24 hD_24 s1_24 s4_24 s5_24 s14_24 s15_24 s16_24 hbb4_23 hbb5_23 hsx1_23 hsxl_23 hsx14_23
 refine tail_nil ?_
 refine wp_seq ?_
 refine wp_ifT s17_25 ?_
 refine wp_skip ?_
 refine wp_seq ?_
 refine wp_block ?_
 refine wp_seq ?_
 refine region_lex [] [(18, Pr.ex (i64 ((3 : Nat) : Int))), (19, Pr.pt' 0 (w0.heap.size + 1) [w32 (t)]), (20, Pr.ex (w32 (t))), (6, Pr.ex (i64 ((3 : Nat) : Int))), (7, Pr.ex (w32 (t)))] 5 hN_25 hD_25 (by kernel_rfl) (by kernel_rfl) ?_ ?_
 refine Asks.cons ?_ (Asks.cons ?_ (Asks.cons ?_ (Asks.cons ?_ (Asks.cons ?_ (Asks.zero _)))))
 exact Ask.plain rfl rfl fun aq wq hNq hO hR hT => does_move (V := i64 ((3 : Nat) : Int)) ((hO 16 rfl).trans s16_25) ⟨Ext.refl _, rfl⟩
 exact Ask.plain rfl rfl fun aq wq hNq hO hR hT => does_indexSl (T := W32) (xs := m.take 4) (i := ((3 : Nat) : Int)) (X := t) sli_70 rfl (SlT.at ((hO 14 rfl).trans s14_25) (hsx14_25.ext' hR)) ((hO 16 rfl).trans s16_25) (by omega) (by rw [hm4]; rfl) (fun v h => ⟨Ext.refl _, h⟩)
 exact Ask.plain rfl rfl fun aq wq hNq hO hR hT => does_loadP1 (V := w32 (t)) (hT 19 rfl rfl) one_22 ⟨Ext.refl _, rfl⟩
 exact Ask.plain rfl rfl fun aq wq hNq hO hR hT => does_assign (V := i64 ((3 : Nat) : Int)) (hT 18 rfl rfl) ⟨Ext.refl _, rfl⟩
 exact Ask.plain rfl rfl fun aq wq hNq hO hR hT => does_assign (V := w32 (t)) (hT 20 rfl rfl) ⟨Ext.refl _, rfl⟩
 intro a26 wd26 hN_26 hD_26 hO hR hA hU
 obtain ⟨_, _, _, t6, t7, _⟩ := hA
 have hE_26 := hE_25.trans hR
 have s1_26 := (hO 1 rfl).trans s1_25
 have s4_26 := (hO 4 rfl).trans s4_25
 have s5_26 := (hO 5 rfl).trans s5_25
 have s14_26 := (hO 14 rfl).trans s14_25
 have s15_26 := (hO 15 rfl).trans s15_25
 have s16_26 := (hO 16 rfl).trans s16_25
 have hbb4_26 := hbb4_25.ext' hR
 have hbb5_26 := hbb5_25.ext' hR
 have hsx1_26 := hsx1_25.ext' hR
 have hsxl_26 := hsxl_25.ext' hR
 have hsx14_26 := hsx14_25.ext' hR
 have s6_26 : get a26 6 = i64 ((3 : Nat) : Int) := t6
 have s7_26 : get a26 7 = w32 (t) := t7
 clear hE_25 hN_25 hD_25 s1_25 s4_25 s5_25 s14_25 s15_25 s16_25 s17_25 hbb4_25 hbb5_25 hsx1_25 hsxl_25 hsx14_25
 refine tail_nil ?_
 refine region_lex [] [(21, Pr.ex (i64 ((3 : Nat) : Int))), (22, Pr.ex (Value.pointer (some ⟨b5, 3, none⟩))), (23, Pr.ex (w32 (s.d))), (24, Pr.ex (w32 (t))), (25, Pr.ex (w32 ((s.d : UInt32) ^^^ (t : UInt32)))), (26, Pr.ex (Value.pointer (some ⟨b5, 3, none⟩)))] 6 hN_26 hD_26 (by kernel_rfl) (by kernel_rfl) ?_ ?_
 refine Asks.cons ?_ (Asks.cons ?_ (Asks.cons ?_ (Asks.cons ?_ (Asks.cons ?_ (Asks.cons ?_ (Asks.zero _))))))
 exact Ask.plain rfl rfl fun aq wq hNq hO hR hT => does_move (V := i64 ((3 : Nat) : Int)) ((hO 6 rfl).trans s6_26) ⟨Ext.refl _, rfl⟩
 exact Ask.plain rfl rfl fun aq wq hNq hO hR hT => does_indexArr (k := .i64) (i := 3) (o' := 3) arr_83 ((hO 5 rfl).trans s5_26) (hT 21 rfl rfl) (by decide) (by decide) rfl ⟨Ext.refl _, rfl⟩
 exact Ask.plain rfl rfl fun aq wq hNq hO hR hT => does_loadD1 (o := 3) (V := w32 (s.d)) (hT 22 rfl rfl) (hbb5_26.ext' hR) rfl one_22 ⟨Ext.refl _, rfl⟩
 exact Ask.plain rfl rfl fun aq wq hNq hO hR hT => does_move (V := w32 (t)) ((hO 7 rfl).trans s7_26) ⟨Ext.refl _, rfl⟩
 exact Ask.plain rfl rfl fun aq wq hNq hO hR hT => does_xor32 (a := (s.d : UInt32)) (b := (t : UInt32)) (hT 23 rfl rfl) (hT 24 rfl rfl) ⟨Ext.refl _, rfl⟩
 exact Ask.plain rfl rfl fun aq wq hNq hO hR hT => does_indexArr (k := .i64) (i := 3) (o' := 3) arr_83 ((hO 5 rfl).trans s5_26) (hT 21 rfl rfl) (by decide) (by decide) rfl ⟨Ext.refl _, rfl⟩
 intro a27 wd27 hN_27 hD_27 hO hR hA hU
 obtain ⟨_, _, _, _, t25, t26, _⟩ := hA
 have hE_27 := hE_26.trans hR
 have s1_27 := (hO 1 rfl).trans s1_26
 have s4_27 := (hO 4 rfl).trans s4_26
 have s5_27 := (hO 5 rfl).trans s5_26
 have s14_27 := (hO 14 rfl).trans s14_26
 have s15_27 := (hO 15 rfl).trans s15_26
 have s16_27 := (hO 16 rfl).trans s16_26
 have hbb4_27 := hbb4_26.ext' hR
 have hbb5_27 := hbb5_26.ext' hR
 have hsx1_27 := hsx1_26.ext' hR
 have hsxl_27 := hsxl_26.ext' hR
 have hsx14_27 := hsx14_26.ext' hR
 have s25_27 : get a27 25 = w32 ((s.d : UInt32) ^^^ (t : UInt32)) := t25
 have s26_27 : get a27 26 = Value.pointer (some ⟨b5, 3, none⟩) := t26
 clear hE_26 hN_26 hD_26 s1_26 s4_26 s5_26 s6_26 s7_26 s14_26 s15_26 s16_26 hbb4_26 hbb5_26 hsx1_26 hsxl_26 hsx14_26
 refine tail_none rfl rfl (does_storeD (o := 3) (n := 1) (cs' := [w32 ((s.a : UInt32) ^^^ (p : UInt32)), w32 ((s.b : UInt32) ^^^ (q : UInt32)), w32 ((s.c : UInt32) ^^^ (r : UInt32)), w32 ((s.d : UInt32) ^^^ (t : UInt32)), w32 (s.e), w32 (s.f), w32 (s.g), w32 (s.h)]) (V := w32 ((s.d : UInt32) ^^^ (t : UInt32))) s26_27 s25_27 hbb5_27 (Nat.le_of_ble_eq_true rfl) rfl siz_22 rfl rfl (fun wd28 hX hz hbb5_28 => ?_))
 have hE_28 := hE_27.since hX (fun k e => e ▸ fr_b5)
 have hbb4_28 := hbb4_27.ext hX ne_b4_b5
 have hsx1_28 := SlT.over hsx1_27 hX nb_x1_b5
 have hsxl_28 := SlT.over hsxl_27 hX (SlT.low hsxl_27 fr_b5)
 have hsx14_28 := SlT.over hsx14_27 hX (SlT.low hsx14_27 fr_b5)
 clear hX hz hE_27 hbb4_27 hbb5_27 hsx1_27 hsxl_27 hsx14_27
 refine tail_nil ?_
 refine region_lex [] [(27, Pr.ex (i64 ((4 : Nat) : Int)))] 1 hN_27 hD_27 (by kernel_rfl) (by kernel_rfl) ?_ ?_
 refine Asks.cons ?_ (Asks.zero _)
 exact Ask.plain rfl rfl fun aq wq hNq hO hR hT => does_add (a := ((3 : Nat) : Int)) (b := ((1 : Nat) : Int)) (r := ((4 : Nat) : Int)) ((hO 16 rfl).trans s16_27) rfl (by decide) (by decide) (by decide) ⟨Ext.refl _, rfl⟩
 intro a29 wd29 hN_29 hD_29 hO hR hA hU
 obtain ⟨t27, _⟩ := hA
 have hE_29 := hE_28.trans hR
 have s1_29 := (hO 1 rfl).trans s1_27
 have s4_29 := (hO 4 rfl).trans s4_27
 have s5_29 := (hO 5 rfl).trans s5_27
 have s14_29 := (hO 14 rfl).trans s14_27
 have s15_29 := (hO 15 rfl).trans s15_27
 have s16_29 := (hO 16 rfl).trans s16_27
 have hbb4_29 := hbb4_28.ext' hR
 have hbb5_29 := hbb5_28.ext' hR
 have hsx1_29 := hsx1_28.ext' hR
 have hsxl_29 := hsxl_28.ext' hR
 have hsx14_29 := hsx14_28.ext' hR
 have s27_29 : get a29 27 = i64 ((4 : Nat) : Int) := t27
 clear hE_28 hN_27 hD_27 s1_27 s4_27 s5_27 s14_27 s15_27 s16_27 s25_27 s26_27 hbb4_28 hbb5_28 hsx1_28 hsxl_28 hsx14_28
 refine tail_put rfl rfl hN_29 hD_29 (by decide) (does_move (V := i64 ((4 : Nat) : Int)) s27_29 (fun a30 hN_30 hD_30 hv hO => ?_))
 have s16_30 := hv
 have s1_30 := (hO 1 rfl).trans s1_29
 have s4_30 := (hO 4 rfl).trans s4_29
 have s5_30 := (hO 5 rfl).trans s5_29
 have s14_30 := (hO 14 rfl).trans s14_29
 have s15_30 := (hO 15 rfl).trans s15_29
 clear hO hv hN_29 hD_29 s1_29 s4_29 s5_29 s14_29 s15_29 s27_29 s16_29
 refine tail_nil ?_
 refine round_step ?_
 refine wp_seq ?_
 refine region_lex [] [(17, Pr.ex (Value.bool (false)))] 1 hN_30 hD_30 (by kernel_rfl) (by kernel_rfl) ?_ ?_
 refine Asks.cons ?_ (Asks.zero _)
 exact Ask.plain rfl rfl fun aq wq hNq hO hR hT => does_lss (a := ((4 : Nat) : Int)) (b := ((4 : Nat) : Int)) ((hO 16 rfl).trans s16_30) ((hO 15 rfl).trans s15_30) ⟨Ext.refl _, rfl⟩
 intro a31 wd31 hN_31 hD_31 hO hR hA hU
 obtain ⟨t17, _⟩ := hA
 have hE_31 := hE_29.trans hR
 have s1_31 := (hO 1 rfl).trans s1_30
 have s4_31 := (hO 4 rfl).trans s4_30
 have s5_31 := (hO 5 rfl).trans s5_30
 have s14_31 := (hO 14 rfl).trans s14_30
 have s15_31 := (hO 15 rfl).trans s15_30
 have s16_31 := (hO 16 rfl).trans s16_30
 have hbb4_31 := hbb4_29.ext' hR
 have hbb5_31 := hbb5_29.ext' hR
 have hsx1_31 := hsx1_29.ext' hR
 have hsxl_31 := hsxl_29.ext' hR
 have hsx14_31 := hsx14_29.ext' hR
 have s17_31 : get a31 17 = Value.bool (false) := t17
 clear hE_29 hN_30 hD_30 s1_30 s4_30 s5_30 s14_30 s15_30 s16_30 hbb4_29 hbb5_29 hsx1_29 hsxl_29 hsx14_29
 refine tail_nil ?_
 refine wp_seq ?_
 refine wp_ifF s17_31 ?_
 refine wp_exit ?_
 refine region_late [] [(28, Pr.ex (Value.agg #[w32 ((s.a : UInt32) ^^^ (p : UInt32)), w32 ((s.b : UInt32) ^^^ (q : UInt32)), w32 ((s.c : UInt32) ^^^ (r : UInt32)), w32 ((s.d : UInt32) ^^^ (t : UInt32)), w32 (s.e), w32 (s.f), w32 (s.g), w32 (s.h)])), (29, Pr.ex (Value.agg #[w32 (((⟨(s.a : UInt32) ^^^ (p : UInt32), (s.b : UInt32) ^^^ (q : UInt32), (s.c : UInt32) ^^^ (r : UInt32), (s.d : UInt32) ^^^ (t : UInt32), s.e, s.f, s.g, s.h⟩ : St)).mix.a), w32 (((⟨(s.a : UInt32) ^^^ (p : UInt32), (s.b : UInt32) ^^^ (q : UInt32), (s.c : UInt32) ^^^ (r : UInt32), (s.d : UInt32) ^^^ (t : UInt32), s.e, s.f, s.g, s.h⟩ : St)).mix.b), w32 (((⟨(s.a : UInt32) ^^^ (p : UInt32), (s.b : UInt32) ^^^ (q : UInt32), (s.c : UInt32) ^^^ (r : UInt32), (s.d : UInt32) ^^^ (t : UInt32), s.e, s.f, s.g, s.h⟩ : St)).mix.c), w32 (((⟨(s.a : UInt32) ^^^ (p : UInt32), (s.b : UInt32) ^^^ (q : UInt32), (s.c : UInt32) ^^^ (r : UInt32), (s.d : UInt32) ^^^ (t : UInt32), s.e, s.f, s.g, s.h⟩ : St)).mix.d), w32 (((⟨(s.a : UInt32) ^^^ (p : UInt32), (s.b : UInt32) ^^^ (q : UInt32), (s.c : UInt32) ^^^ (r : UInt32), (s.d : UInt32) ^^^ (t : UInt32), s.e, s.f, s.g, s.h⟩ : St)).mix.e), w32 (((⟨(s.a : UInt32) ^^^ (p : UInt32), (s.b : UInt32) ^^^ (q : UInt32), (s.c : UInt32) ^^^ (r : UInt32), (s.d : UInt32) ^^^ (t : UInt32), s.e, s.f, s.g, s.h⟩ : St)).mix.f), w32 (((⟨(s.a : UInt32) ^^^ (p : UInt32), (s.b : UInt32) ^^^ (q : UInt32), (s.c : UInt32) ^^^ (r : UInt32), (s.d : UInt32) ^^^ (t : UInt32), s.e, s.f, s.g, s.h⟩ : St)).mix.g), w32 (((⟨(s.a : UInt32) ^^^ (p : UInt32), (s.b : UInt32) ^^^ (q : UInt32), (s.c : UInt32) ^^^ (r : UInt32), (s.d : UInt32) ^^^ (t : UInt32), s.e, s.f, s.g, s.h⟩ : St)).mix.h)])), (30, Pr.ex (xl)), (31, Pr.sl' W32 0 (w0.heap.size + 1) (m.drop 4))] 4 [2, 3] (fun k => k = b5) mixed hN_31 hD_31 (by kernel_rfl) (by kernel_rfl) (by kernel_rfl) (by kernel_rfl) (fun d v c a w h => by cases d <;> exact h) ?_ ?_ ?_
 refine Asks.cons ?_ (Asks.cons ?_ (Asks.cons ?_ (Asks.cons ?_ (Asks.zero _))))
 exact Ask.plainD rfl rfl fun aq wq hNq hO hR hT => does_loadD (o := 0) (n := 8) (mid := [w32 ((s.a : UInt32) ^^^ (p : UInt32)), w32 ((s.b : UInt32) ^^^ (q : UInt32)), w32 ((s.c : UInt32) ^^^ (r : UInt32)), w32 ((s.d : UInt32) ^^^ (t : UInt32)), w32 (s.e), w32 (s.f), w32 (s.g), w32 (s.h)]) ((hO 5 rfl).trans s5_31) (hbb5_31.ext' hR) rfl rfl (Nat.le_of_ble_eq_true rfl) row_83 rfl ⟨Ext.refl _, rfl⟩
 exact Ask.plainD rfl rfl fun aq wq hNq hO hR hT => does_ret (vs := #[Value.agg #[w32 ((s.a : UInt32) ^^^ (p : UInt32)), w32 ((s.b : UInt32) ^^^ (q : UInt32)), w32 ((s.c : UInt32) ^^^ (r : UInt32)), w32 ((s.d : UInt32) ^^^ (t : UInt32)), w32 (s.e), w32 (s.f), w32 (s.g), w32 (s.h)]]) call_72 (args1 (hT 28 rfl rfl)) rfl ((mix (⟨(s.a : UInt32) ^^^ (p : UInt32), (s.b : UInt32) ^^^ (q : UInt32), (s.c : UInt32) ^^^ (r : UInt32), (s.d : UInt32) ^^^ (t : UInt32), s.e, s.f, s.g, s.h⟩ : St) wq (hL.ext (hE_31.trans hR))).mono fun v w2 h => ⟨h.2, h.1⟩)
 exact Ask.plainD rfl rfl fun aq wq hNq hO hR hT => does_move (V := xl) ((hO 1 rfl).trans s1_31) ⟨Ext.refl _, rfl⟩
 exact Ask.plainD rfl rfl fun aq wq hNq hO hR hT => does_sliceLo (T := W32) (xs := m) (k := ((4 : Nat) : Int)) sli_70 rfl (SlT.at (hT 30 rfl rfl) (hsxl_31.ext' hR)) rfl (by omega) (by omega) (fun v h => ⟨Ext.refl _, h⟩)
 refine LateAsks.cons rfl rfl rfl ?_ (LateAsks.cons rfl rfl rfl ?_ LateAsks.nil)
 intro aq wq hO hR hT
 have hR0 := hR
 replace hR := (Ext.drew _).trans hR
 exact ⟨_, yl_move (V := xl) ((hO 1 rfl).trans s1_31), rfl⟩
 intro aq wq hO hR hT
 have hR0 := hR
 replace hR := (Ext.drew _).trans hR
 exact yl_sliceLo (T := W32) (xs := m) (k := ((4 : Nat) : Int)) sli_70 rfl (SlT.at (hT 30 rfl rfl) (hsxl_31.ext' hR)) rfl (by omega) (by omega)
 intro wl hwl hwh a32 wd32 hN_32 hD_32 hO hR hA hU
 have hS_32 : ExtE (fun k => k = b5) wl wd32 := hR.toE
 replace hR := hwl.trans hR
 obtain ⟨_, t29, _, t31, _⟩ := hA
 have hE_32 := hE_31.trans hR
 have s1_32 := (hO 1 rfl).trans s1_31
 have s4_32 := (hO 4 rfl).trans s4_31
 have s5_32 := (hO 5 rfl).trans s5_31
 have hbb4_32 := hbb4_31.ext' hR
 have hbb5_32 := hbb5_31.ext' hR
 have hsx1_32 := hsx1_31.ext' hR
 have hsxl_32 := hsxl_31.ext' hR
 have hsx14_32 := hsx14_31.ext' hR
 have s29_32 : get a32 29 = Value.agg #[w32 (((⟨(s.a : UInt32) ^^^ (p : UInt32), (s.b : UInt32) ^^^ (q : UInt32), (s.c : UInt32) ^^^ (r : UInt32), (s.d : UInt32) ^^^ (t : UInt32), s.e, s.f, s.g, s.h⟩ : St)).mix.a), w32 (((⟨(s.a : UInt32) ^^^ (p : UInt32), (s.b : UInt32) ^^^ (q : UInt32), (s.c : UInt32) ^^^ (r : UInt32), (s.d : UInt32) ^^^ (t : UInt32), s.e, s.f, s.g, s.h⟩ : St)).mix.b), w32 (((⟨(s.a : UInt32) ^^^ (p : UInt32), (s.b : UInt32) ^^^ (q : UInt32), (s.c : UInt32) ^^^ (r : UInt32), (s.d : UInt32) ^^^ (t : UInt32), s.e, s.f, s.g, s.h⟩ : St)).mix.c), w32 (((⟨(s.a : UInt32) ^^^ (p : UInt32), (s.b : UInt32) ^^^ (q : UInt32), (s.c : UInt32) ^^^ (r : UInt32), (s.d : UInt32) ^^^ (t : UInt32), s.e, s.f, s.g, s.h⟩ : St)).mix.d), w32 (((⟨(s.a : UInt32) ^^^ (p : UInt32), (s.b : UInt32) ^^^ (q : UInt32), (s.c : UInt32) ^^^ (r : UInt32), (s.d : UInt32) ^^^ (t : UInt32), s.e, s.f, s.g, s.h⟩ : St)).mix.e), w32 (((⟨(s.a : UInt32) ^^^ (p : UInt32), (s.b : UInt32) ^^^ (q : UInt32), (s.c : UInt32) ^^^ (r : UInt32), (s.d : UInt32) ^^^ (t : UInt32), s.e, s.f, s.g, s.h⟩ : St)).mix.f), w32 (((⟨(s.a : UInt32) ^^^ (p : UInt32), (s.b : UInt32) ^^^ (q : UInt32), (s.c : UInt32) ^^^ (r : UInt32), (s.d : UInt32) ^^^ (t : UInt32), s.e, s.f, s.g, s.h⟩ : St)).mix.g), w32 (((⟨(s.a : UInt32) ^^^ (p : UInt32), (s.b : UInt32) ^^^ (q : UInt32), (s.c : UInt32) ^^^ (r : UInt32), (s.d : UInt32) ^^^ (t : UInt32), s.e, s.f, s.g, s.h⟩ : St)).mix.h)] := t29
 obtain ⟨x31, s31_32⟩ : ∃ x, get a32 31 = x := ⟨_, rfl⟩
 replace t31 : SlT W32 0 (w0.heap.size + 1) (m.drop 4) x31 wd32 := by rw [← s31_32]; exact t31
 have hsx31_32 := t31
 clear hE_31 hN_31 hD_31 s1_31 s4_31 s5_31 s14_31 s15_31 s16_31 s17_31 hbb4_31 hbb5_31 hsx1_31 hsxl_31 hsx14_31
 refine tailS_none rfl rfl (does_storeD (o := 0) (n := 8) (cs' := [w32 (((⟨(s.a : UInt32) ^^^ (p : UInt32), (s.b : UInt32) ^^^ (q : UInt32), (s.c : UInt32) ^^^ (r : UInt32), (s.d : UInt32) ^^^ (t : UInt32), s.e, s.f, s.g, s.h⟩ : St)).mix.a), w32 (((⟨(s.a : UInt32) ^^^ (p : UInt32), (s.b : UInt32) ^^^ (q : UInt32), (s.c : UInt32) ^^^ (r : UInt32), (s.d : UInt32) ^^^ (t : UInt32), s.e, s.f, s.g, s.h⟩ : St)).mix.b), w32 (((⟨(s.a : UInt32) ^^^ (p : UInt32), (s.b : UInt32) ^^^ (q : UInt32), (s.c : UInt32) ^^^ (r : UInt32), (s.d : UInt32) ^^^ (t : UInt32), s.e, s.f, s.g, s.h⟩ : St)).mix.c), w32 (((⟨(s.a : UInt32) ^^^ (p : UInt32), (s.b : UInt32) ^^^ (q : UInt32), (s.c : UInt32) ^^^ (r : UInt32), (s.d : UInt32) ^^^ (t : UInt32), s.e, s.f, s.g, s.h⟩ : St)).mix.d), w32 (((⟨(s.a : UInt32) ^^^ (p : UInt32), (s.b : UInt32) ^^^ (q : UInt32), (s.c : UInt32) ^^^ (r : UInt32), (s.d : UInt32) ^^^ (t : UInt32), s.e, s.f, s.g, s.h⟩ : St)).mix.e), w32 (((⟨(s.a : UInt32) ^^^ (p : UInt32), (s.b : UInt32) ^^^ (q : UInt32), (s.c : UInt32) ^^^ (r : UInt32), (s.d : UInt32) ^^^ (t : UInt32), s.e, s.f, s.g, s.h⟩ : St)).mix.f), w32 (((⟨(s.a : UInt32) ^^^ (p : UInt32), (s.b : UInt32) ^^^ (q : UInt32), (s.c : UInt32) ^^^ (r : UInt32), (s.d : UInt32) ^^^ (t : UInt32), s.e, s.f, s.g, s.h⟩ : St)).mix.g), w32 (((⟨(s.a : UInt32) ^^^ (p : UInt32), (s.b : UInt32) ^^^ (q : UInt32), (s.c : UInt32) ^^^ (r : UInt32), (s.d : UInt32) ^^^ (t : UInt32), s.e, s.f, s.g, s.h⟩ : St)).mix.h)]) (V := Value.agg #[w32 (((⟨(s.a : UInt32) ^^^ (p : UInt32), (s.b : UInt32) ^^^ (q : UInt32), (s.c : UInt32) ^^^ (r : UInt32), (s.d : UInt32) ^^^ (t : UInt32), s.e, s.f, s.g, s.h⟩ : St)).mix.a), w32 (((⟨(s.a : UInt32) ^^^ (p : UInt32), (s.b : UInt32) ^^^ (q : UInt32), (s.c : UInt32) ^^^ (r : UInt32), (s.d : UInt32) ^^^ (t : UInt32), s.e, s.f, s.g, s.h⟩ : St)).mix.b), w32 (((⟨(s.a : UInt32) ^^^ (p : UInt32), (s.b : UInt32) ^^^ (q : UInt32), (s.c : UInt32) ^^^ (r : UInt32), (s.d : UInt32) ^^^ (t : UInt32), s.e, s.f, s.g, s.h⟩ : St)).mix.c), w32 (((⟨(s.a : UInt32) ^^^ (p : UInt32), (s.b : UInt32) ^^^ (q : UInt32), (s.c : UInt32) ^^^ (r : UInt32), (s.d : UInt32) ^^^ (t : UInt32), s.e, s.f, s.g, s.h⟩ : St)).mix.d), w32 (((⟨(s.a : UInt32) ^^^ (p : UInt32), (s.b : UInt32) ^^^ (q : UInt32), (s.c : UInt32) ^^^ (r : UInt32), (s.d : UInt32) ^^^ (t : UInt32), s.e, s.f, s.g, s.h⟩ : St)).mix.e), w32 (((⟨(s.a : UInt32) ^^^ (p : UInt32), (s.b : UInt32) ^^^ (q : UInt32), (s.c : UInt32) ^^^ (r : UInt32), (s.d : UInt32) ^^^ (t : UInt32), s.e, s.f, s.g, s.h⟩ : St)).mix.f), w32 (((⟨(s.a : UInt32) ^^^ (p : UInt32), (s.b : UInt32) ^^^ (q : UInt32), (s.c : UInt32) ^^^ (r : UInt32), (s.d : UInt32) ^^^ (t : UInt32), s.e, s.f, s.g, s.h⟩ : St)).mix.g), w32 (((⟨(s.a : UInt32) ^^^ (p : UInt32), (s.b : UInt32) ^^^ (q : UInt32), (s.c : UInt32) ^^^ (r : UInt32), (s.d : UInt32) ^^^ (t : UInt32), s.e, s.f, s.g, s.h⟩ : St)).mix.h)]) s5_32 s29_32 hbb5_32 (Nat.le_of_ble_eq_true rfl) rfl siz_83 rfl rfl (fun wd33 hX hz hbb5_33 => ⟨hS_32.trans (hX.mono fun k _ e => e), ?_⟩))
 have hS_33 := hS_32.trans (hX.mono (E' := (fun k => k = b5)) fun k _ e => e)
 have hE_33 := hE_32.since hX (fun k e => e ▸ fr_b5)
 have hbb4_33 := hbb4_32.ext hX ne_b4_b5
 have hsx1_33 := SlT.over hsx1_32 hX nb_x1_b5
 have hsxl_33 := SlT.over hsxl_32 hX (SlT.low hsxl_32 fr_b5)
 have hsx14_33 := SlT.over hsx14_32 hX (SlT.low hsx14_32 fr_b5)
 have hsx31_33 := SlT.over hsx31_32 hX (SlT.low hsx31_32 fr_b5)
 clear hX hz hE_32 hbb4_32 hbb5_32 hsx1_32 hsxl_32 hsx14_32 hsx31_32
 refine tailS_put rfl rfl hN_32 hD_32 (by decide) (does_assign (V := x31) s31_32 (⟨hS_33, fun a34 hN_34 hD_34 hv hO => ?_⟩))
 have s1_34 := hv
 have s4_34 := (hO 4 rfl).trans s4_32
 have s5_34 := (hO 5 rfl).trans s5_32
 clear hO hv hN_32 hD_32 s4_32 s5_32 s29_32 s31_32 s1_32
 refine tailS_nil ?_
 exact ⟨_, by rw [hm4]; simp only [List.length_cons]; omega, m', (s.take ⟨p, q, r, t⟩), x31, rfl, hN_34, hD_34, s1_34, s4_34, s5_34, hE_33, hbb4_33, hbb5_33, hsx1_33, (by have h := hsx31_33; rw [hm4] at h; exact h), by rw [← hm, hm4]; rfl⟩
 have hc0 := of_decide_eq_false hc0
 refine wp_exit ?_
 refine wp_seq ?_
 refine region_lex [] [(32, Pr.ex (Value.slice (some ⟨b5, 0, none⟩) 4 8)), (33, Pr.ex (Value.pointer (some ⟨b5, 0, none⟩))), (34, Pr.ex (Dg.val ((⟨s.a, s.b, s.c, s.d⟩ : Dg))))] 3 hN_5 hD_5 (by kernel_rfl) (by kernel_rfl) ?_ ?_
 refine Asks.cons ?_ (Asks.cons ?_ (Asks.cons ?_ (Asks.zero _)))
 exact Ask.plain rfl rfl fun aq wq hNq hO hR hT => does_arrHi (k := .i64) (i := 4) arr_83 ((hO 5 rfl).trans s5_5) rfl (by decide) (by decide) ⟨Ext.refl _, rfl⟩
 exact Ask.plain rfl rfl fun aq wq hNq hO hR hT => does_arrPtr arr_24 (hT 32 rfl rfl) (by decide) ⟨Ext.refl _, rfl⟩
 exact Ask.plain rfl rfl fun aq wq hNq hO hR hT => does_loadD (o := 0) (n := 4) (mid := [w32 ((⟨s.a, s.b, s.c, s.d⟩ : Dg)).a, w32 ((⟨s.a, s.b, s.c, s.d⟩ : Dg)).b, w32 ((⟨s.a, s.b, s.c, s.d⟩ : Dg)).c, w32 ((⟨s.a, s.b, s.c, s.d⟩ : Dg)).d]) (hT 33 rfl rfl) (hbb5_5.ext' hR) rfl rfl (Nat.le_of_ble_eq_true rfl) row_24 rfl ⟨Ext.refl _, rfl⟩
 intro a35 wd35 hN_35 hD_35 hO hR hA hU
 obtain ⟨_, _, t34, _⟩ := hA
 have hE_35 := hE_5.trans hR
 have s4_35 := (hO 4 rfl).trans s4_5
 have hbb4_35 := hbb4_5.ext' hR
 have hbb5_35 := hbb5_5.ext' hR
 have hsx1_35 := hsx1_5.ext' hR
 have hsxl_35 := hsxl_5.ext' hR
 have s34_35 : get a35 34 = Dg.val ((⟨s.a, s.b, s.c, s.d⟩ : Dg)) := t34
 clear hE_5 hN_5 hD_5 s1_5 s4_5 s5_5 s12_5 hbb4_5 hbb5_5 hsx1_5 hsxl_5
 refine tail_none rfl rfl (does_storeD (o := 0) (n := 4) (cs' := [w32 ((⟨s.a, s.b, s.c, s.d⟩ : Dg)).a, w32 ((⟨s.a, s.b, s.c, s.d⟩ : Dg)).b, w32 ((⟨s.a, s.b, s.c, s.d⟩ : Dg)).c, w32 ((⟨s.a, s.b, s.c, s.d⟩ : Dg)).d]) (V := Dg.val ((⟨s.a, s.b, s.c, s.d⟩ : Dg))) s4_35 s34_35 hbb4_35 (Nat.le_of_ble_eq_true rfl) rfl siz_24 rfl rfl (fun wd36 hX hz hbb4_36 => ?_))
 have hE_36 := hE_35.since hX (fun k e => e ▸ fr_b4)
 have hbb5_36 := hbb5_35.ext hX ne_b4_b5.symm
 have hsx1_36 := SlT.over hsx1_35 hX nb_x1_b4
 have hsxl_36 := SlT.over hsxl_35 hX (SlT.low hsxl_35 fr_b4)
 clear hX hz hE_35 hbb4_35 hbb5_35 hsx1_35 hsxl_35
 refine tail_nil ?_
 refine wp_ret ?_
 refine res_one (V := Dg.val ((⟨s.a, s.b, s.c, s.d⟩ : Dg))) rfl hD_35 (ResIs.cell s4_35 hbb4_36 row_24 rfl rfl) ?_
 rw [takes_short (by omega)] at hm
 exact ⟨by show Dg.val _ = Dg.val _; rw [← hm]; rfl, hE_36⟩

theorem takeR (s : St) (d : Dg) (w0 : World) :
    Gives Tryd.prog 58 #[Value.agg #[w32 (s.a), w32 (s.b), w32 (s.c), w32 (s.d), w32 (s.e), w32 (s.f), w32 (s.g), w32 (s.h)], Dg.val (d)] w0 (Pr.ex (St.val (s.take d))) := by
 refine enter (N := 21) Tryd.func58 rfl rfl ?_
 intro a0 hN_0 hD_0 hA
 have s0_0 : get a0 0 = Value.agg #[w32 (s.a), w32 (s.b), w32 (s.c), w32 (s.d), w32 (s.e), w32 (s.f), w32 (s.g), w32 (s.h)] := hA 0 _ rfl
 have s1_0 : get a0 1 = Dg.val (d) := hA 1 _ rfl
 clear hA
 have hE_0 : Ext w0 w0 := Ext.refl w0
 refine wp_seq ?_
 refine region_lex [2, 3, 4] [(2, Pr.box' w0.heap.size 83 [w32 (s.a), w32 (s.b), w32 (s.c), w32 (s.d), w32 (s.e), w32 (s.f), w32 (s.g), w32 (s.h)]), (3, Pr.box' w0.heap.size 24 [w32 (d).a, w32 (d).b, w32 (d).c, w32 (d).d]), (4, Pr.box' w0.heap.size 83 [w32 (0), w32 (0), w32 (0), w32 (0), w32 (0), w32 (0), w32 (0), w32 (0)])] 3 hN_0 hD_0 (by kernel_rfl) (by kernel_rfl) ?_ ?_
 refine Asks.cons ?_ (Asks.cons ?_ (Asks.cons ?_ (Asks.zero _)))
 refine Ask.fresh rfl rfl ?_
 intro aq wq hNq hO hR hT
 exact does_box (V := Value.agg #[w32 (s.a), w32 (s.b), w32 (s.c), w32 (s.d), w32 (s.e), w32 (s.f), w32 (s.g), w32 (s.h)]) ((hO 0 rfl).trans s0_0) (fun b w2 he hlo hb => ⟨he, ⟨b, rfl, Nat.le_trans hR.size' hlo, hb⟩, ⟨b, rfl, hlo, hb.lt⟩⟩)
 refine Ask.fresh rfl rfl ?_
 intro aq wq hNq hO hR hT
 exact does_box (V := Dg.val (d)) ((hO 1 rfl).trans s1_0) (fun b w2 he hlo hb => ⟨he, ⟨b, rfl, Nat.le_trans hR.size' hlo, hb⟩, ⟨b, rfl, hlo, hb.lt⟩⟩)
 refine Ask.fresh rfl rfl ?_
 intro aq wq hNq hO hR hT
 exact does_alloc zero_83 (fun b w2 he hlo hb => ⟨he, ⟨b, rfl, Nat.le_trans hR.size' hlo, hb⟩, ⟨b, rfl, hlo, hb.lt⟩⟩)
 intro a1 wd1 hN_1 hD_1 hO hR hA hU
 obtain ⟨t2, t3, t4, _⟩ := hA
 have hE_1 := hE_0.trans hR
 obtain ⟨b2, s2_1, lo_b2, hbb2_1⟩ := t2
 have fr_b2 : w0.heap.size ≤ b2 := Nat.le_trans hE_0.size' lo_b2
 obtain ⟨b3, s3_1, lo_b3, hbb3_1⟩ := t3
 have fr_b3 : w0.heap.size ≤ b3 := Nat.le_trans hE_0.size' lo_b3
 obtain ⟨b4, s4_1, lo_b4, hbb4_1⟩ := t4
 have fr_b4 : w0.heap.size ≤ b4 := Nat.le_trans hE_0.size' lo_b4
 obtain ⟨u0, ⟨u1, ⟨u2, _⟩⟩⟩ := hU
 have ne_b2_b3 : b2 ≠ b3 := fun e => u0 3 (by decide) (by rw [s2_1, s3_1, e])
 have ne_b2_b4 : b2 ≠ b4 := fun e => u0 4 (by decide) (by rw [s2_1, s4_1, e])
 have ne_b3_b4 : b3 ≠ b4 := fun e => u1 4 (by decide) (by rw [s3_1, s4_1, e])
 clear hE_0 hN_0 hD_0 s0_0 s1_0
 refine tail_nil ?_
 refine wp_seq ?_
 refine wp_seq ?_
 refine region_lex [] [(5, Pr.ex (i64 ((0 : Nat) : Int)))] 1 hN_1 hD_1 (by kernel_rfl) (by kernel_rfl) ?_ ?_
 refine Asks.cons ?_ (Asks.zero _)
 exact Ask.plain rfl rfl fun aq wq hNq hO hR hT => does_assign (V := i64 ((0 : Nat) : Int)) rfl ⟨Ext.refl _, rfl⟩
 intro a2 wd2 hN_2 hD_2 hO hR hA hU
 obtain ⟨t5, _⟩ := hA
 have hE_2 := hE_1.trans hR
 have s2_2 := (hO 2 rfl).trans s2_1
 have s3_2 := (hO 3 rfl).trans s3_1
 have s4_2 := (hO 4 rfl).trans s4_1
 have hbb2_2 := hbb2_1.ext' hR
 have hbb3_2 := hbb3_1.ext' hR
 have hbb4_2 := hbb4_1.ext' hR
 have s5_2 : get a2 5 = i64 ((0 : Nat) : Int) := t5
 clear hE_1 hN_1 hD_1 s2_1 s3_1 s4_1 hbb2_1 hbb3_1 hbb4_1
 refine tail_nil ?_
 refine wp_block ?_
 refine loop_rounds 5 ?_
 refine round_step ?_
 refine wp_seq ?_
 refine wp_seq ?_
 refine region_lex [] [(6, Pr.ex (i64 ((0 : Nat) : Int))), (7, Pr.ex (Value.bool (true)))] 2 hN_2 hD_2 (by kernel_rfl) (by kernel_rfl) ?_ ?_
 refine Asks.cons ?_ (Asks.cons ?_ (Asks.zero _))
 exact Ask.plain rfl rfl fun aq wq hNq hO hR hT => does_move (V := i64 ((0 : Nat) : Int)) ((hO 5 rfl).trans s5_2) ⟨Ext.refl _, rfl⟩
 exact Ask.plain rfl rfl fun aq wq hNq hO hR hT => does_lss (a := ((0 : Nat) : Int)) (b := ((4 : Nat) : Int)) (hT 6 rfl rfl) rfl ⟨Ext.refl _, rfl⟩
 intro a3 wd3 hN_3 hD_3 hO hR hA hU
 obtain ⟨_, t7, _⟩ := hA
 have hE_3 := hE_2.trans hR
 have s2_3 := (hO 2 rfl).trans s2_2
 have s3_3 := (hO 3 rfl).trans s3_2
 have s4_3 := (hO 4 rfl).trans s4_2
 have s5_3 := (hO 5 rfl).trans s5_2
 have hbb2_3 := hbb2_2.ext' hR
 have hbb3_3 := hbb3_2.ext' hR
 have hbb4_3 := hbb4_2.ext' hR
 have s7_3 : get a3 7 = Value.bool (true) := t7
 clear hE_2 hN_2 hD_2 s2_2 s3_2 s4_2 s5_2 hbb2_2 hbb3_2 hbb4_2
 refine tail_nil ?_
 refine wp_ifT s7_3 ?_
 refine wp_skip ?_
 refine wp_seq ?_
 refine wp_block ?_
 refine region_any [] [(10, Pr.ex (i64 ((0 : Nat) : Int))), (11, Pr.ex (i64 ((0 : Nat) : Int))), (12, Pr.ex (Value.pointer (some ⟨b2, 0, none⟩))), (13, Pr.ex (w32 (s.a))), (14, Pr.ex (i64 ((0 : Nat) : Int))), (15, Pr.ex (Value.pointer (some ⟨b3, 0, none⟩))), (16, Pr.ex (w32 ((d).a))), (17, Pr.ex (w32 ((s.a : UInt32) ^^^ ((d).a : UInt32)))), (18, Pr.ex (Value.pointer (some ⟨b2, 0, none⟩)))] 9 mixed hN_3 hD_3 (by kernel_rfl) (by kernel_rfl) (by kernel_rfl) ?_ ?_
 refine Asks.cons ?_ (Asks.cons ?_ (Asks.cons ?_ (Asks.cons ?_ (Asks.cons ?_ (Asks.cons ?_ (Asks.cons ?_ (Asks.cons ?_ (Asks.cons ?_ (Asks.zero _)))))))))
 exact Ask.plainD rfl rfl fun aq wq hNq hO hR hT => does_move (V := i64 ((0 : Nat) : Int)) ((hO 5 rfl).trans s5_3) ⟨Ext.refl _, rfl⟩
 exact Ask.plainD rfl rfl fun aq wq hNq hO hR hT => does_move (V := i64 ((0 : Nat) : Int)) ((hO 5 rfl).trans s5_3) ⟨Ext.refl _, rfl⟩
 exact Ask.plainD rfl rfl fun aq wq hNq hO hR hT => does_indexArr (k := .i64) (i := 0) (o' := 0) arr_83 ((hO 2 rfl).trans s2_3) (hT 11 rfl rfl) (by decide) (by decide) rfl ⟨Ext.refl _, rfl⟩
 exact Ask.plainD rfl rfl fun aq wq hNq hO hR hT => does_loadD1 (o := 0) (V := w32 (s.a)) (hT 12 rfl rfl) (hbb2_3.ext' hR) rfl one_22 ⟨Ext.refl _, rfl⟩
 exact Ask.plainD rfl rfl fun aq wq hNq hO hR hT => does_move (V := i64 ((0 : Nat) : Int)) ((hO 5 rfl).trans s5_3) ⟨Ext.refl _, rfl⟩
 exact Ask.plainD rfl rfl fun aq wq hNq hO hR hT => does_indexArr (k := .i64) (i := 0) (o' := 0) arr_24 ((hO 3 rfl).trans s3_3) (hT 14 rfl rfl) (by decide) (by decide) rfl ⟨Ext.refl _, rfl⟩
 exact Ask.plainD rfl rfl fun aq wq hNq hO hR hT => does_loadD1 (o := 0) (V := w32 ((d).a)) (hT 15 rfl rfl) (hbb3_3.ext' hR) rfl one_22 ⟨Ext.refl _, rfl⟩
 exact Ask.plainD rfl rfl fun aq wq hNq hO hR hT => does_xor32 (a := (s.a : UInt32)) (b := ((d).a : UInt32)) (hT 13 rfl rfl) (hT 16 rfl rfl) ⟨Ext.refl _, rfl⟩
 exact Ask.plainD rfl rfl fun aq wq hNq hO hR hT => does_indexArr (k := .i64) (i := 0) (o' := 0) arr_83 ((hO 2 rfl).trans s2_3) (hT 10 rfl rfl) (by decide) (by decide) rfl ⟨Ext.refl _, rfl⟩
 intro a4 wd4 hN_4 hD_4 hO hR hA hU
 obtain ⟨_, _, _, _, _, _, _, t17, t18, _⟩ := hA
 have hE_4 := hE_3.trans hR
 have s2_4 := (hO 2 rfl).trans s2_3
 have s3_4 := (hO 3 rfl).trans s3_3
 have s4_4 := (hO 4 rfl).trans s4_3
 have s5_4 := (hO 5 rfl).trans s5_3
 have hbb2_4 := hbb2_3.ext' hR
 have hbb3_4 := hbb3_3.ext' hR
 have hbb4_4 := hbb4_3.ext' hR
 have s17_4 : get a4 17 = w32 ((s.a : UInt32) ^^^ ((d).a : UInt32)) := t17
 have s18_4 : get a4 18 = Value.pointer (some ⟨b2, 0, none⟩) := t18
 clear hE_3 hN_3 hD_3 s2_3 s3_3 s4_3 s5_3 s7_3 hbb2_3 hbb3_3 hbb4_3
 refine tail_none rfl rfl (does_storeD (o := 0) (n := 1) (cs' := [w32 ((s.a : UInt32) ^^^ ((d).a : UInt32)), w32 (s.b), w32 (s.c), w32 (s.d), w32 (s.e), w32 (s.f), w32 (s.g), w32 (s.h)]) (V := w32 ((s.a : UInt32) ^^^ ((d).a : UInt32))) s18_4 s17_4 hbb2_4 (Nat.le_of_ble_eq_true rfl) rfl siz_22 rfl rfl (fun wd5 hX hz hbb2_5 => ?_))
 have hE_5 := hE_4.since hX (fun k e => e ▸ fr_b2)
 have hbb3_5 := hbb3_4.ext hX ne_b2_b3.symm
 have hbb4_5 := hbb4_4.ext hX ne_b2_b4.symm
 clear hX hz hE_4 hbb2_4 hbb3_4 hbb4_4
 refine tail_nil ?_
 refine region_lex [] [(8, Pr.ex (i64 ((0 : Nat) : Int))), (9, Pr.ex (i64 ((1 : Nat) : Int)))] 2 hN_4 hD_4 (by kernel_rfl) (by kernel_rfl) ?_ ?_
 refine Asks.cons ?_ (Asks.cons ?_ (Asks.zero _))
 exact Ask.plain rfl rfl fun aq wq hNq hO hR hT => does_move (V := i64 ((0 : Nat) : Int)) ((hO 5 rfl).trans s5_4) ⟨Ext.refl _, rfl⟩
 exact Ask.plain rfl rfl fun aq wq hNq hO hR hT => does_add (a := ((0 : Nat) : Int)) (b := ((1 : Nat) : Int)) (r := ((1 : Nat) : Int)) (hT 8 rfl rfl) rfl (by decide) (by decide) (by decide) ⟨Ext.refl _, rfl⟩
 intro a6 wd6 hN_6 hD_6 hO hR hA hU
 obtain ⟨_, t9, _⟩ := hA
 have hE_6 := hE_5.trans hR
 have s2_6 := (hO 2 rfl).trans s2_4
 have s3_6 := (hO 3 rfl).trans s3_4
 have s4_6 := (hO 4 rfl).trans s4_4
 have s5_6 := (hO 5 rfl).trans s5_4
 have hbb2_6 := hbb2_5.ext' hR
 have hbb3_6 := hbb3_5.ext' hR
 have hbb4_6 := hbb4_5.ext' hR
 have s9_6 : get a6 9 = i64 ((1 : Nat) : Int) := t9
 clear hE_5 hN_4 hD_4 s2_4 s3_4 s4_4 s5_4 s17_4 s18_4 hbb2_5 hbb3_5 hbb4_5
 refine tail_put rfl rfl hN_6 hD_6 (by decide) (does_assign (V := i64 ((1 : Nat) : Int)) s9_6 (fun a7 hN_7 hD_7 hv hO => ?_))
 have s5_7 := hv
 have s2_7 := (hO 2 rfl).trans s2_6
 have s3_7 := (hO 3 rfl).trans s3_6
 have s4_7 := (hO 4 rfl).trans s4_6
 clear hO hv hN_6 hD_6 s2_6 s3_6 s4_6 s9_6 s5_6
 refine tail_nil ?_
 refine round_step ?_
 refine wp_seq ?_
 refine wp_seq ?_
 refine region_lex [] [(6, Pr.ex (i64 ((1 : Nat) : Int))), (7, Pr.ex (Value.bool (true)))] 2 hN_7 hD_7 (by kernel_rfl) (by kernel_rfl) ?_ ?_
 refine Asks.cons ?_ (Asks.cons ?_ (Asks.zero _))
 exact Ask.plain rfl rfl fun aq wq hNq hO hR hT => does_move (V := i64 ((1 : Nat) : Int)) ((hO 5 rfl).trans s5_7) ⟨Ext.refl _, rfl⟩
 exact Ask.plain rfl rfl fun aq wq hNq hO hR hT => does_lss (a := ((1 : Nat) : Int)) (b := ((4 : Nat) : Int)) (hT 6 rfl rfl) rfl ⟨Ext.refl _, rfl⟩
 intro a8 wd8 hN_8 hD_8 hO hR hA hU
 obtain ⟨_, t7, _⟩ := hA
 have hE_8 := hE_6.trans hR
 have s2_8 := (hO 2 rfl).trans s2_7
 have s3_8 := (hO 3 rfl).trans s3_7
 have s4_8 := (hO 4 rfl).trans s4_7
 have s5_8 := (hO 5 rfl).trans s5_7
 have hbb2_8 := hbb2_6.ext' hR
 have hbb3_8 := hbb3_6.ext' hR
 have hbb4_8 := hbb4_6.ext' hR
 have s7_8 : get a8 7 = Value.bool (true) := t7
 clear hE_6 hN_7 hD_7 s2_7 s3_7 s4_7 s5_7 hbb2_6 hbb3_6 hbb4_6
 refine tail_nil ?_
 refine wp_ifT s7_8 ?_
 refine wp_skip ?_
 refine wp_seq ?_
 refine wp_block ?_
 refine region_any [] [(10, Pr.ex (i64 ((1 : Nat) : Int))), (11, Pr.ex (i64 ((1 : Nat) : Int))), (12, Pr.ex (Value.pointer (some ⟨b2, 1, none⟩))), (13, Pr.ex (w32 (s.b))), (14, Pr.ex (i64 ((1 : Nat) : Int))), (15, Pr.ex (Value.pointer (some ⟨b3, 1, none⟩))), (16, Pr.ex (w32 ((d).b))), (17, Pr.ex (w32 ((s.b : UInt32) ^^^ ((d).b : UInt32)))), (18, Pr.ex (Value.pointer (some ⟨b2, 1, none⟩)))] 9 mixed hN_8 hD_8 (by kernel_rfl) (by kernel_rfl) (by kernel_rfl) ?_ ?_
 refine Asks.cons ?_ (Asks.cons ?_ (Asks.cons ?_ (Asks.cons ?_ (Asks.cons ?_ (Asks.cons ?_ (Asks.cons ?_ (Asks.cons ?_ (Asks.cons ?_ (Asks.zero _)))))))))
 exact Ask.plainD rfl rfl fun aq wq hNq hO hR hT => does_move (V := i64 ((1 : Nat) : Int)) ((hO 5 rfl).trans s5_8) ⟨Ext.refl _, rfl⟩
 exact Ask.plainD rfl rfl fun aq wq hNq hO hR hT => does_move (V := i64 ((1 : Nat) : Int)) ((hO 5 rfl).trans s5_8) ⟨Ext.refl _, rfl⟩
 exact Ask.plainD rfl rfl fun aq wq hNq hO hR hT => does_indexArr (k := .i64) (i := 1) (o' := 1) arr_83 ((hO 2 rfl).trans s2_8) (hT 11 rfl rfl) (by decide) (by decide) rfl ⟨Ext.refl _, rfl⟩
 exact Ask.plainD rfl rfl fun aq wq hNq hO hR hT => does_loadD1 (o := 1) (V := w32 (s.b)) (hT 12 rfl rfl) (hbb2_8.ext' hR) rfl one_22 ⟨Ext.refl _, rfl⟩
 exact Ask.plainD rfl rfl fun aq wq hNq hO hR hT => does_move (V := i64 ((1 : Nat) : Int)) ((hO 5 rfl).trans s5_8) ⟨Ext.refl _, rfl⟩
 exact Ask.plainD rfl rfl fun aq wq hNq hO hR hT => does_indexArr (k := .i64) (i := 1) (o' := 1) arr_24 ((hO 3 rfl).trans s3_8) (hT 14 rfl rfl) (by decide) (by decide) rfl ⟨Ext.refl _, rfl⟩
 exact Ask.plainD rfl rfl fun aq wq hNq hO hR hT => does_loadD1 (o := 1) (V := w32 ((d).b)) (hT 15 rfl rfl) (hbb3_8.ext' hR) rfl one_22 ⟨Ext.refl _, rfl⟩
 exact Ask.plainD rfl rfl fun aq wq hNq hO hR hT => does_xor32 (a := (s.b : UInt32)) (b := ((d).b : UInt32)) (hT 13 rfl rfl) (hT 16 rfl rfl) ⟨Ext.refl _, rfl⟩
 exact Ask.plainD rfl rfl fun aq wq hNq hO hR hT => does_indexArr (k := .i64) (i := 1) (o' := 1) arr_83 ((hO 2 rfl).trans s2_8) (hT 10 rfl rfl) (by decide) (by decide) rfl ⟨Ext.refl _, rfl⟩
 intro a9 wd9 hN_9 hD_9 hO hR hA hU
 obtain ⟨_, _, _, _, _, _, _, t17, t18, _⟩ := hA
 have hE_9 := hE_8.trans hR
 have s2_9 := (hO 2 rfl).trans s2_8
 have s3_9 := (hO 3 rfl).trans s3_8
 have s4_9 := (hO 4 rfl).trans s4_8
 have s5_9 := (hO 5 rfl).trans s5_8
 have hbb2_9 := hbb2_8.ext' hR
 have hbb3_9 := hbb3_8.ext' hR
 have hbb4_9 := hbb4_8.ext' hR
 have s17_9 : get a9 17 = w32 ((s.b : UInt32) ^^^ ((d).b : UInt32)) := t17
 have s18_9 : get a9 18 = Value.pointer (some ⟨b2, 1, none⟩) := t18
 clear hE_8 hN_8 hD_8 s2_8 s3_8 s4_8 s5_8 s7_8 hbb2_8 hbb3_8 hbb4_8
 refine tail_none rfl rfl (does_storeD (o := 1) (n := 1) (cs' := [w32 ((s.a : UInt32) ^^^ ((d).a : UInt32)), w32 ((s.b : UInt32) ^^^ ((d).b : UInt32)), w32 (s.c), w32 (s.d), w32 (s.e), w32 (s.f), w32 (s.g), w32 (s.h)]) (V := w32 ((s.b : UInt32) ^^^ ((d).b : UInt32))) s18_9 s17_9 hbb2_9 (Nat.le_of_ble_eq_true rfl) rfl siz_22 rfl rfl (fun wd10 hX hz hbb2_10 => ?_))
 have hE_10 := hE_9.since hX (fun k e => e ▸ fr_b2)
 have hbb3_10 := hbb3_9.ext hX ne_b2_b3.symm
 have hbb4_10 := hbb4_9.ext hX ne_b2_b4.symm
 clear hX hz hE_9 hbb2_9 hbb3_9 hbb4_9
 refine tail_nil ?_
 refine region_lex [] [(8, Pr.ex (i64 ((1 : Nat) : Int))), (9, Pr.ex (i64 ((2 : Nat) : Int)))] 2 hN_9 hD_9 (by kernel_rfl) (by kernel_rfl) ?_ ?_
 refine Asks.cons ?_ (Asks.cons ?_ (Asks.zero _))
 exact Ask.plain rfl rfl fun aq wq hNq hO hR hT => does_move (V := i64 ((1 : Nat) : Int)) ((hO 5 rfl).trans s5_9) ⟨Ext.refl _, rfl⟩
 exact Ask.plain rfl rfl fun aq wq hNq hO hR hT => does_add (a := ((1 : Nat) : Int)) (b := ((1 : Nat) : Int)) (r := ((2 : Nat) : Int)) (hT 8 rfl rfl) rfl (by decide) (by decide) (by decide) ⟨Ext.refl _, rfl⟩
 intro a11 wd11 hN_11 hD_11 hO hR hA hU
 obtain ⟨_, t9, _⟩ := hA
 have hE_11 := hE_10.trans hR
 have s2_11 := (hO 2 rfl).trans s2_9
 have s3_11 := (hO 3 rfl).trans s3_9
 have s4_11 := (hO 4 rfl).trans s4_9
 have s5_11 := (hO 5 rfl).trans s5_9
 have hbb2_11 := hbb2_10.ext' hR
 have hbb3_11 := hbb3_10.ext' hR
 have hbb4_11 := hbb4_10.ext' hR
 have s9_11 : get a11 9 = i64 ((2 : Nat) : Int) := t9
 clear hE_10 hN_9 hD_9 s2_9 s3_9 s4_9 s5_9 s17_9 s18_9 hbb2_10 hbb3_10 hbb4_10
 refine tail_put rfl rfl hN_11 hD_11 (by decide) (does_assign (V := i64 ((2 : Nat) : Int)) s9_11 (fun a12 hN_12 hD_12 hv hO => ?_))
 have s5_12 := hv
 have s2_12 := (hO 2 rfl).trans s2_11
 have s3_12 := (hO 3 rfl).trans s3_11
 have s4_12 := (hO 4 rfl).trans s4_11
 clear hO hv hN_11 hD_11 s2_11 s3_11 s4_11 s9_11 s5_11
 refine tail_nil ?_
 refine round_step ?_
 refine wp_seq ?_
 refine wp_seq ?_
 refine region_lex [] [(6, Pr.ex (i64 ((2 : Nat) : Int))), (7, Pr.ex (Value.bool (true)))] 2 hN_12 hD_12 (by kernel_rfl) (by kernel_rfl) ?_ ?_
 refine Asks.cons ?_ (Asks.cons ?_ (Asks.zero _))
 exact Ask.plain rfl rfl fun aq wq hNq hO hR hT => does_move (V := i64 ((2 : Nat) : Int)) ((hO 5 rfl).trans s5_12) ⟨Ext.refl _, rfl⟩
 exact Ask.plain rfl rfl fun aq wq hNq hO hR hT => does_lss (a := ((2 : Nat) : Int)) (b := ((4 : Nat) : Int)) (hT 6 rfl rfl) rfl ⟨Ext.refl _, rfl⟩
 intro a13 wd13 hN_13 hD_13 hO hR hA hU
 obtain ⟨_, t7, _⟩ := hA
 have hE_13 := hE_11.trans hR
 have s2_13 := (hO 2 rfl).trans s2_12
 have s3_13 := (hO 3 rfl).trans s3_12
 have s4_13 := (hO 4 rfl).trans s4_12
 have s5_13 := (hO 5 rfl).trans s5_12
 have hbb2_13 := hbb2_11.ext' hR
 have hbb3_13 := hbb3_11.ext' hR
 have hbb4_13 := hbb4_11.ext' hR
 have s7_13 : get a13 7 = Value.bool (true) := t7
 clear hE_11 hN_12 hD_12 s2_12 s3_12 s4_12 s5_12 hbb2_11 hbb3_11 hbb4_11
 refine tail_nil ?_
 refine wp_ifT s7_13 ?_
 refine wp_skip ?_
 refine wp_seq ?_
 refine wp_block ?_
 refine region_any [] [(10, Pr.ex (i64 ((2 : Nat) : Int))), (11, Pr.ex (i64 ((2 : Nat) : Int))), (12, Pr.ex (Value.pointer (some ⟨b2, 2, none⟩))), (13, Pr.ex (w32 (s.c))), (14, Pr.ex (i64 ((2 : Nat) : Int))), (15, Pr.ex (Value.pointer (some ⟨b3, 2, none⟩))), (16, Pr.ex (w32 ((d).c))), (17, Pr.ex (w32 ((s.c : UInt32) ^^^ ((d).c : UInt32)))), (18, Pr.ex (Value.pointer (some ⟨b2, 2, none⟩)))] 9 mixed hN_13 hD_13 (by kernel_rfl) (by kernel_rfl) (by kernel_rfl) ?_ ?_
 refine Asks.cons ?_ (Asks.cons ?_ (Asks.cons ?_ (Asks.cons ?_ (Asks.cons ?_ (Asks.cons ?_ (Asks.cons ?_ (Asks.cons ?_ (Asks.cons ?_ (Asks.zero _)))))))))
 exact Ask.plainD rfl rfl fun aq wq hNq hO hR hT => does_move (V := i64 ((2 : Nat) : Int)) ((hO 5 rfl).trans s5_13) ⟨Ext.refl _, rfl⟩
 exact Ask.plainD rfl rfl fun aq wq hNq hO hR hT => does_move (V := i64 ((2 : Nat) : Int)) ((hO 5 rfl).trans s5_13) ⟨Ext.refl _, rfl⟩
 exact Ask.plainD rfl rfl fun aq wq hNq hO hR hT => does_indexArr (k := .i64) (i := 2) (o' := 2) arr_83 ((hO 2 rfl).trans s2_13) (hT 11 rfl rfl) (by decide) (by decide) rfl ⟨Ext.refl _, rfl⟩
 exact Ask.plainD rfl rfl fun aq wq hNq hO hR hT => does_loadD1 (o := 2) (V := w32 (s.c)) (hT 12 rfl rfl) (hbb2_13.ext' hR) rfl one_22 ⟨Ext.refl _, rfl⟩
 exact Ask.plainD rfl rfl fun aq wq hNq hO hR hT => does_move (V := i64 ((2 : Nat) : Int)) ((hO 5 rfl).trans s5_13) ⟨Ext.refl _, rfl⟩
 exact Ask.plainD rfl rfl fun aq wq hNq hO hR hT => does_indexArr (k := .i64) (i := 2) (o' := 2) arr_24 ((hO 3 rfl).trans s3_13) (hT 14 rfl rfl) (by decide) (by decide) rfl ⟨Ext.refl _, rfl⟩
 exact Ask.plainD rfl rfl fun aq wq hNq hO hR hT => does_loadD1 (o := 2) (V := w32 ((d).c)) (hT 15 rfl rfl) (hbb3_13.ext' hR) rfl one_22 ⟨Ext.refl _, rfl⟩
 exact Ask.plainD rfl rfl fun aq wq hNq hO hR hT => does_xor32 (a := (s.c : UInt32)) (b := ((d).c : UInt32)) (hT 13 rfl rfl) (hT 16 rfl rfl) ⟨Ext.refl _, rfl⟩
 exact Ask.plainD rfl rfl fun aq wq hNq hO hR hT => does_indexArr (k := .i64) (i := 2) (o' := 2) arr_83 ((hO 2 rfl).trans s2_13) (hT 10 rfl rfl) (by decide) (by decide) rfl ⟨Ext.refl _, rfl⟩
 intro a14 wd14 hN_14 hD_14 hO hR hA hU
 obtain ⟨_, _, _, _, _, _, _, t17, t18, _⟩ := hA
 have hE_14 := hE_13.trans hR
 have s2_14 := (hO 2 rfl).trans s2_13
 have s3_14 := (hO 3 rfl).trans s3_13
 have s4_14 := (hO 4 rfl).trans s4_13
 have s5_14 := (hO 5 rfl).trans s5_13
 have hbb2_14 := hbb2_13.ext' hR
 have hbb3_14 := hbb3_13.ext' hR
 have hbb4_14 := hbb4_13.ext' hR
 have s17_14 : get a14 17 = w32 ((s.c : UInt32) ^^^ ((d).c : UInt32)) := t17
 have s18_14 : get a14 18 = Value.pointer (some ⟨b2, 2, none⟩) := t18
 clear hE_13 hN_13 hD_13 s2_13 s3_13 s4_13 s5_13 s7_13 hbb2_13 hbb3_13 hbb4_13
 refine tail_none rfl rfl (does_storeD (o := 2) (n := 1) (cs' := [w32 ((s.a : UInt32) ^^^ ((d).a : UInt32)), w32 ((s.b : UInt32) ^^^ ((d).b : UInt32)), w32 ((s.c : UInt32) ^^^ ((d).c : UInt32)), w32 (s.d), w32 (s.e), w32 (s.f), w32 (s.g), w32 (s.h)]) (V := w32 ((s.c : UInt32) ^^^ ((d).c : UInt32))) s18_14 s17_14 hbb2_14 (Nat.le_of_ble_eq_true rfl) rfl siz_22 rfl rfl (fun wd15 hX hz hbb2_15 => ?_))
 have hE_15 := hE_14.since hX (fun k e => e ▸ fr_b2)
 have hbb3_15 := hbb3_14.ext hX ne_b2_b3.symm
 have hbb4_15 := hbb4_14.ext hX ne_b2_b4.symm
 clear hX hz hE_14 hbb2_14 hbb3_14 hbb4_14
 refine tail_nil ?_
 refine region_lex [] [(8, Pr.ex (i64 ((2 : Nat) : Int))), (9, Pr.ex (i64 ((3 : Nat) : Int)))] 2 hN_14 hD_14 (by kernel_rfl) (by kernel_rfl) ?_ ?_
 refine Asks.cons ?_ (Asks.cons ?_ (Asks.zero _))
 exact Ask.plain rfl rfl fun aq wq hNq hO hR hT => does_move (V := i64 ((2 : Nat) : Int)) ((hO 5 rfl).trans s5_14) ⟨Ext.refl _, rfl⟩
 exact Ask.plain rfl rfl fun aq wq hNq hO hR hT => does_add (a := ((2 : Nat) : Int)) (b := ((1 : Nat) : Int)) (r := ((3 : Nat) : Int)) (hT 8 rfl rfl) rfl (by decide) (by decide) (by decide) ⟨Ext.refl _, rfl⟩
 intro a16 wd16 hN_16 hD_16 hO hR hA hU
 obtain ⟨_, t9, _⟩ := hA
 have hE_16 := hE_15.trans hR
 have s2_16 := (hO 2 rfl).trans s2_14
 have s3_16 := (hO 3 rfl).trans s3_14
 have s4_16 := (hO 4 rfl).trans s4_14
 have s5_16 := (hO 5 rfl).trans s5_14
 have hbb2_16 := hbb2_15.ext' hR
 have hbb3_16 := hbb3_15.ext' hR
 have hbb4_16 := hbb4_15.ext' hR
 have s9_16 : get a16 9 = i64 ((3 : Nat) : Int) := t9
 clear hE_15 hN_14 hD_14 s2_14 s3_14 s4_14 s5_14 s17_14 s18_14 hbb2_15 hbb3_15 hbb4_15
 refine tail_put rfl rfl hN_16 hD_16 (by decide) (does_assign (V := i64 ((3 : Nat) : Int)) s9_16 (fun a17 hN_17 hD_17 hv hO => ?_))
 have s5_17 := hv
 have s2_17 := (hO 2 rfl).trans s2_16
 have s3_17 := (hO 3 rfl).trans s3_16
 have s4_17 := (hO 4 rfl).trans s4_16
 clear hO hv hN_16 hD_16 s2_16 s3_16 s4_16 s9_16 s5_16
 refine tail_nil ?_
 refine round_step ?_
 refine wp_seq ?_
 refine wp_seq ?_
 refine region_lex [] [(6, Pr.ex (i64 ((3 : Nat) : Int))), (7, Pr.ex (Value.bool (true)))] 2 hN_17 hD_17 (by kernel_rfl) (by kernel_rfl) ?_ ?_
 refine Asks.cons ?_ (Asks.cons ?_ (Asks.zero _))
 exact Ask.plain rfl rfl fun aq wq hNq hO hR hT => does_move (V := i64 ((3 : Nat) : Int)) ((hO 5 rfl).trans s5_17) ⟨Ext.refl _, rfl⟩
 exact Ask.plain rfl rfl fun aq wq hNq hO hR hT => does_lss (a := ((3 : Nat) : Int)) (b := ((4 : Nat) : Int)) (hT 6 rfl rfl) rfl ⟨Ext.refl _, rfl⟩
 intro a18 wd18 hN_18 hD_18 hO hR hA hU
 obtain ⟨_, t7, _⟩ := hA
 have hE_18 := hE_16.trans hR
 have s2_18 := (hO 2 rfl).trans s2_17
 have s3_18 := (hO 3 rfl).trans s3_17
 have s4_18 := (hO 4 rfl).trans s4_17
 have s5_18 := (hO 5 rfl).trans s5_17
 have hbb2_18 := hbb2_16.ext' hR
 have hbb3_18 := hbb3_16.ext' hR
 have hbb4_18 := hbb4_16.ext' hR
 have s7_18 : get a18 7 = Value.bool (true) := t7
 clear hE_16 hN_17 hD_17 s2_17 s3_17 s4_17 s5_17 hbb2_16 hbb3_16 hbb4_16
 refine tail_nil ?_
 refine wp_ifT s7_18 ?_
 refine wp_skip ?_
 refine wp_seq ?_
 refine wp_block ?_
 refine region_any [] [(10, Pr.ex (i64 ((3 : Nat) : Int))), (11, Pr.ex (i64 ((3 : Nat) : Int))), (12, Pr.ex (Value.pointer (some ⟨b2, 3, none⟩))), (13, Pr.ex (w32 (s.d))), (14, Pr.ex (i64 ((3 : Nat) : Int))), (15, Pr.ex (Value.pointer (some ⟨b3, 3, none⟩))), (16, Pr.ex (w32 ((d).d))), (17, Pr.ex (w32 ((s.d : UInt32) ^^^ ((d).d : UInt32)))), (18, Pr.ex (Value.pointer (some ⟨b2, 3, none⟩)))] 9 mixed hN_18 hD_18 (by kernel_rfl) (by kernel_rfl) (by kernel_rfl) ?_ ?_
 refine Asks.cons ?_ (Asks.cons ?_ (Asks.cons ?_ (Asks.cons ?_ (Asks.cons ?_ (Asks.cons ?_ (Asks.cons ?_ (Asks.cons ?_ (Asks.cons ?_ (Asks.zero _)))))))))
 exact Ask.plainD rfl rfl fun aq wq hNq hO hR hT => does_move (V := i64 ((3 : Nat) : Int)) ((hO 5 rfl).trans s5_18) ⟨Ext.refl _, rfl⟩
 exact Ask.plainD rfl rfl fun aq wq hNq hO hR hT => does_move (V := i64 ((3 : Nat) : Int)) ((hO 5 rfl).trans s5_18) ⟨Ext.refl _, rfl⟩
 exact Ask.plainD rfl rfl fun aq wq hNq hO hR hT => does_indexArr (k := .i64) (i := 3) (o' := 3) arr_83 ((hO 2 rfl).trans s2_18) (hT 11 rfl rfl) (by decide) (by decide) rfl ⟨Ext.refl _, rfl⟩
 exact Ask.plainD rfl rfl fun aq wq hNq hO hR hT => does_loadD1 (o := 3) (V := w32 (s.d)) (hT 12 rfl rfl) (hbb2_18.ext' hR) rfl one_22 ⟨Ext.refl _, rfl⟩
 exact Ask.plainD rfl rfl fun aq wq hNq hO hR hT => does_move (V := i64 ((3 : Nat) : Int)) ((hO 5 rfl).trans s5_18) ⟨Ext.refl _, rfl⟩
 exact Ask.plainD rfl rfl fun aq wq hNq hO hR hT => does_indexArr (k := .i64) (i := 3) (o' := 3) arr_24 ((hO 3 rfl).trans s3_18) (hT 14 rfl rfl) (by decide) (by decide) rfl ⟨Ext.refl _, rfl⟩
 exact Ask.plainD rfl rfl fun aq wq hNq hO hR hT => does_loadD1 (o := 3) (V := w32 ((d).d)) (hT 15 rfl rfl) (hbb3_18.ext' hR) rfl one_22 ⟨Ext.refl _, rfl⟩
 exact Ask.plainD rfl rfl fun aq wq hNq hO hR hT => does_xor32 (a := (s.d : UInt32)) (b := ((d).d : UInt32)) (hT 13 rfl rfl) (hT 16 rfl rfl) ⟨Ext.refl _, rfl⟩
 exact Ask.plainD rfl rfl fun aq wq hNq hO hR hT => does_indexArr (k := .i64) (i := 3) (o' := 3) arr_83 ((hO 2 rfl).trans s2_18) (hT 10 rfl rfl) (by decide) (by decide) rfl ⟨Ext.refl _, rfl⟩
 intro a19 wd19 hN_19 hD_19 hO hR hA hU
 obtain ⟨_, _, _, _, _, _, _, t17, t18, _⟩ := hA
 have hE_19 := hE_18.trans hR
 have s2_19 := (hO 2 rfl).trans s2_18
 have s3_19 := (hO 3 rfl).trans s3_18
 have s4_19 := (hO 4 rfl).trans s4_18
 have s5_19 := (hO 5 rfl).trans s5_18
 have hbb2_19 := hbb2_18.ext' hR
 have hbb3_19 := hbb3_18.ext' hR
 have hbb4_19 := hbb4_18.ext' hR
 have s17_19 : get a19 17 = w32 ((s.d : UInt32) ^^^ ((d).d : UInt32)) := t17
 have s18_19 : get a19 18 = Value.pointer (some ⟨b2, 3, none⟩) := t18
 clear hE_18 hN_18 hD_18 s2_18 s3_18 s4_18 s5_18 s7_18 hbb2_18 hbb3_18 hbb4_18
 refine tail_none rfl rfl (does_storeD (o := 3) (n := 1) (cs' := [w32 ((s.a : UInt32) ^^^ ((d).a : UInt32)), w32 ((s.b : UInt32) ^^^ ((d).b : UInt32)), w32 ((s.c : UInt32) ^^^ ((d).c : UInt32)), w32 ((s.d : UInt32) ^^^ ((d).d : UInt32)), w32 (s.e), w32 (s.f), w32 (s.g), w32 (s.h)]) (V := w32 ((s.d : UInt32) ^^^ ((d).d : UInt32))) s18_19 s17_19 hbb2_19 (Nat.le_of_ble_eq_true rfl) rfl siz_22 rfl rfl (fun wd20 hX hz hbb2_20 => ?_))
 have hE_20 := hE_19.since hX (fun k e => e ▸ fr_b2)
 have hbb3_20 := hbb3_19.ext hX ne_b2_b3.symm
 have hbb4_20 := hbb4_19.ext hX ne_b2_b4.symm
 clear hX hz hE_19 hbb2_19 hbb3_19 hbb4_19
 refine tail_nil ?_
 refine region_lex [] [(8, Pr.ex (i64 ((3 : Nat) : Int))), (9, Pr.ex (i64 ((4 : Nat) : Int)))] 2 hN_19 hD_19 (by kernel_rfl) (by kernel_rfl) ?_ ?_
 refine Asks.cons ?_ (Asks.cons ?_ (Asks.zero _))
 exact Ask.plain rfl rfl fun aq wq hNq hO hR hT => does_move (V := i64 ((3 : Nat) : Int)) ((hO 5 rfl).trans s5_19) ⟨Ext.refl _, rfl⟩
 exact Ask.plain rfl rfl fun aq wq hNq hO hR hT => does_add (a := ((3 : Nat) : Int)) (b := ((1 : Nat) : Int)) (r := ((4 : Nat) : Int)) (hT 8 rfl rfl) rfl (by decide) (by decide) (by decide) ⟨Ext.refl _, rfl⟩
 intro a21 wd21 hN_21 hD_21 hO hR hA hU
 obtain ⟨_, t9, _⟩ := hA
 have hE_21 := hE_20.trans hR
 have s2_21 := (hO 2 rfl).trans s2_19
 have s3_21 := (hO 3 rfl).trans s3_19
 have s4_21 := (hO 4 rfl).trans s4_19
 have s5_21 := (hO 5 rfl).trans s5_19
 have hbb2_21 := hbb2_20.ext' hR
 have hbb3_21 := hbb3_20.ext' hR
 have hbb4_21 := hbb4_20.ext' hR
 have s9_21 : get a21 9 = i64 ((4 : Nat) : Int) := t9
 clear hE_20 hN_19 hD_19 s2_19 s3_19 s4_19 s5_19 s17_19 s18_19 hbb2_20 hbb3_20 hbb4_20
 refine tail_put rfl rfl hN_21 hD_21 (by decide) (does_assign (V := i64 ((4 : Nat) : Int)) s9_21 (fun a22 hN_22 hD_22 hv hO => ?_))
 have s5_22 := hv
 have s2_22 := (hO 2 rfl).trans s2_21
 have s3_22 := (hO 3 rfl).trans s3_21
 have s4_22 := (hO 4 rfl).trans s4_21
 clear hO hv hN_21 hD_21 s2_21 s3_21 s4_21 s9_21 s5_21
 refine tail_nil ?_
 refine round_step ?_
 refine wp_seq ?_
 refine wp_seq ?_
 refine region_lex [] [(6, Pr.ex (i64 ((4 : Nat) : Int))), (7, Pr.ex (Value.bool (false)))] 2 hN_22 hD_22 (by kernel_rfl) (by kernel_rfl) ?_ ?_
 refine Asks.cons ?_ (Asks.cons ?_ (Asks.zero _))
 exact Ask.plain rfl rfl fun aq wq hNq hO hR hT => does_move (V := i64 ((4 : Nat) : Int)) ((hO 5 rfl).trans s5_22) ⟨Ext.refl _, rfl⟩
 exact Ask.plain rfl rfl fun aq wq hNq hO hR hT => does_lss (a := ((4 : Nat) : Int)) (b := ((4 : Nat) : Int)) (hT 6 rfl rfl) rfl ⟨Ext.refl _, rfl⟩
 intro a23 wd23 hN_23 hD_23 hO hR hA hU
 obtain ⟨_, t7, _⟩ := hA
 have hE_23 := hE_21.trans hR
 have s2_23 := (hO 2 rfl).trans s2_22
 have s3_23 := (hO 3 rfl).trans s3_22
 have s4_23 := (hO 4 rfl).trans s4_22
 have s5_23 := (hO 5 rfl).trans s5_22
 have hbb2_23 := hbb2_21.ext' hR
 have hbb3_23 := hbb3_21.ext' hR
 have hbb4_23 := hbb4_21.ext' hR
 have s7_23 : get a23 7 = Value.bool (false) := t7
 clear hE_21 hN_22 hD_22 s2_22 s3_22 s4_22 s5_22 hbb2_21 hbb3_21 hbb4_21
 refine tail_nil ?_
 refine wp_ifF s7_23 ?_
 refine wp_exit ?_
 refine wp_seq ?_
 refine region_lex [] [(19, Pr.ex (Value.agg #[w32 ((s.a : UInt32) ^^^ ((d).a : UInt32)), w32 ((s.b : UInt32) ^^^ ((d).b : UInt32)), w32 ((s.c : UInt32) ^^^ ((d).c : UInt32)), w32 ((s.d : UInt32) ^^^ ((d).d : UInt32)), w32 (s.e), w32 (s.f), w32 (s.g), w32 (s.h)])), (20, Pr.ex (Value.agg #[w32 (((⟨(s.a : UInt32) ^^^ ((d).a : UInt32), (s.b : UInt32) ^^^ ((d).b : UInt32), (s.c : UInt32) ^^^ ((d).c : UInt32), (s.d : UInt32) ^^^ ((d).d : UInt32), s.e, s.f, s.g, s.h⟩ : St)).mix.a), w32 (((⟨(s.a : UInt32) ^^^ ((d).a : UInt32), (s.b : UInt32) ^^^ ((d).b : UInt32), (s.c : UInt32) ^^^ ((d).c : UInt32), (s.d : UInt32) ^^^ ((d).d : UInt32), s.e, s.f, s.g, s.h⟩ : St)).mix.b), w32 (((⟨(s.a : UInt32) ^^^ ((d).a : UInt32), (s.b : UInt32) ^^^ ((d).b : UInt32), (s.c : UInt32) ^^^ ((d).c : UInt32), (s.d : UInt32) ^^^ ((d).d : UInt32), s.e, s.f, s.g, s.h⟩ : St)).mix.c), w32 (((⟨(s.a : UInt32) ^^^ ((d).a : UInt32), (s.b : UInt32) ^^^ ((d).b : UInt32), (s.c : UInt32) ^^^ ((d).c : UInt32), (s.d : UInt32) ^^^ ((d).d : UInt32), s.e, s.f, s.g, s.h⟩ : St)).mix.d), w32 (((⟨(s.a : UInt32) ^^^ ((d).a : UInt32), (s.b : UInt32) ^^^ ((d).b : UInt32), (s.c : UInt32) ^^^ ((d).c : UInt32), (s.d : UInt32) ^^^ ((d).d : UInt32), s.e, s.f, s.g, s.h⟩ : St)).mix.e), w32 (((⟨(s.a : UInt32) ^^^ ((d).a : UInt32), (s.b : UInt32) ^^^ ((d).b : UInt32), (s.c : UInt32) ^^^ ((d).c : UInt32), (s.d : UInt32) ^^^ ((d).d : UInt32), s.e, s.f, s.g, s.h⟩ : St)).mix.f), w32 (((⟨(s.a : UInt32) ^^^ ((d).a : UInt32), (s.b : UInt32) ^^^ ((d).b : UInt32), (s.c : UInt32) ^^^ ((d).c : UInt32), (s.d : UInt32) ^^^ ((d).d : UInt32), s.e, s.f, s.g, s.h⟩ : St)).mix.g), w32 (((⟨(s.a : UInt32) ^^^ ((d).a : UInt32), (s.b : UInt32) ^^^ ((d).b : UInt32), (s.c : UInt32) ^^^ ((d).c : UInt32), (s.d : UInt32) ^^^ ((d).d : UInt32), s.e, s.f, s.g, s.h⟩ : St)).mix.h)]))] 2 hN_23 hD_23 (by kernel_rfl) (by kernel_rfl) ?_ ?_
 refine Asks.cons ?_ (Asks.cons ?_ (Asks.zero _))
 exact Ask.plain rfl rfl fun aq wq hNq hO hR hT => does_loadD (o := 0) (n := 8) (mid := [w32 ((s.a : UInt32) ^^^ ((d).a : UInt32)), w32 ((s.b : UInt32) ^^^ ((d).b : UInt32)), w32 ((s.c : UInt32) ^^^ ((d).c : UInt32)), w32 ((s.d : UInt32) ^^^ ((d).d : UInt32)), w32 (s.e), w32 (s.f), w32 (s.g), w32 (s.h)]) ((hO 2 rfl).trans s2_23) (hbb2_23.ext' hR) rfl rfl (Nat.le_of_ble_eq_true rfl) row_83 rfl ⟨Ext.refl _, rfl⟩
 exact Ask.plain rfl rfl fun aq wq hNq hO hR hT => does_ret (vs := #[Value.agg #[w32 ((s.a : UInt32) ^^^ ((d).a : UInt32)), w32 ((s.b : UInt32) ^^^ ((d).b : UInt32)), w32 ((s.c : UInt32) ^^^ ((d).c : UInt32)), w32 ((s.d : UInt32) ^^^ ((d).d : UInt32)), w32 (s.e), w32 (s.f), w32 (s.g), w32 (s.h)]]) call_65 (args1 (hT 19 rfl rfl)) rfl ((mixR (⟨(s.a : UInt32) ^^^ ((d).a : UInt32), (s.b : UInt32) ^^^ ((d).b : UInt32), (s.c : UInt32) ^^^ ((d).c : UInt32), (s.d : UInt32) ^^^ ((d).d : UInt32), s.e, s.f, s.g, s.h⟩ : St) wq).mono fun v w2 h => ⟨h.2, h.1⟩)
 intro a24 wd24 hN_24 hD_24 hO hR hA hU
 obtain ⟨_, t20, _⟩ := hA
 have hE_24 := hE_23.trans hR
 have s4_24 := (hO 4 rfl).trans s4_23
 have hbb2_24 := hbb2_23.ext' hR
 have hbb3_24 := hbb3_23.ext' hR
 have hbb4_24 := hbb4_23.ext' hR
 have s20_24 : get a24 20 = Value.agg #[w32 (((⟨(s.a : UInt32) ^^^ ((d).a : UInt32), (s.b : UInt32) ^^^ ((d).b : UInt32), (s.c : UInt32) ^^^ ((d).c : UInt32), (s.d : UInt32) ^^^ ((d).d : UInt32), s.e, s.f, s.g, s.h⟩ : St)).mix.a), w32 (((⟨(s.a : UInt32) ^^^ ((d).a : UInt32), (s.b : UInt32) ^^^ ((d).b : UInt32), (s.c : UInt32) ^^^ ((d).c : UInt32), (s.d : UInt32) ^^^ ((d).d : UInt32), s.e, s.f, s.g, s.h⟩ : St)).mix.b), w32 (((⟨(s.a : UInt32) ^^^ ((d).a : UInt32), (s.b : UInt32) ^^^ ((d).b : UInt32), (s.c : UInt32) ^^^ ((d).c : UInt32), (s.d : UInt32) ^^^ ((d).d : UInt32), s.e, s.f, s.g, s.h⟩ : St)).mix.c), w32 (((⟨(s.a : UInt32) ^^^ ((d).a : UInt32), (s.b : UInt32) ^^^ ((d).b : UInt32), (s.c : UInt32) ^^^ ((d).c : UInt32), (s.d : UInt32) ^^^ ((d).d : UInt32), s.e, s.f, s.g, s.h⟩ : St)).mix.d), w32 (((⟨(s.a : UInt32) ^^^ ((d).a : UInt32), (s.b : UInt32) ^^^ ((d).b : UInt32), (s.c : UInt32) ^^^ ((d).c : UInt32), (s.d : UInt32) ^^^ ((d).d : UInt32), s.e, s.f, s.g, s.h⟩ : St)).mix.e), w32 (((⟨(s.a : UInt32) ^^^ ((d).a : UInt32), (s.b : UInt32) ^^^ ((d).b : UInt32), (s.c : UInt32) ^^^ ((d).c : UInt32), (s.d : UInt32) ^^^ ((d).d : UInt32), s.e, s.f, s.g, s.h⟩ : St)).mix.f), w32 (((⟨(s.a : UInt32) ^^^ ((d).a : UInt32), (s.b : UInt32) ^^^ ((d).b : UInt32), (s.c : UInt32) ^^^ ((d).c : UInt32), (s.d : UInt32) ^^^ ((d).d : UInt32), s.e, s.f, s.g, s.h⟩ : St)).mix.g), w32 (((⟨(s.a : UInt32) ^^^ ((d).a : UInt32), (s.b : UInt32) ^^^ ((d).b : UInt32), (s.c : UInt32) ^^^ ((d).c : UInt32), (s.d : UInt32) ^^^ ((d).d : UInt32), s.e, s.f, s.g, s.h⟩ : St)).mix.h)] := t20
 clear hE_23 hN_23 hD_23 s2_23 s3_23 s4_23 s5_23 s7_23 hbb2_23 hbb3_23 hbb4_23
 refine tail_none rfl rfl (does_storeD (o := 0) (n := 8) (cs' := [w32 (((⟨(s.a : UInt32) ^^^ ((d).a : UInt32), (s.b : UInt32) ^^^ ((d).b : UInt32), (s.c : UInt32) ^^^ ((d).c : UInt32), (s.d : UInt32) ^^^ ((d).d : UInt32), s.e, s.f, s.g, s.h⟩ : St)).mix.a), w32 (((⟨(s.a : UInt32) ^^^ ((d).a : UInt32), (s.b : UInt32) ^^^ ((d).b : UInt32), (s.c : UInt32) ^^^ ((d).c : UInt32), (s.d : UInt32) ^^^ ((d).d : UInt32), s.e, s.f, s.g, s.h⟩ : St)).mix.b), w32 (((⟨(s.a : UInt32) ^^^ ((d).a : UInt32), (s.b : UInt32) ^^^ ((d).b : UInt32), (s.c : UInt32) ^^^ ((d).c : UInt32), (s.d : UInt32) ^^^ ((d).d : UInt32), s.e, s.f, s.g, s.h⟩ : St)).mix.c), w32 (((⟨(s.a : UInt32) ^^^ ((d).a : UInt32), (s.b : UInt32) ^^^ ((d).b : UInt32), (s.c : UInt32) ^^^ ((d).c : UInt32), (s.d : UInt32) ^^^ ((d).d : UInt32), s.e, s.f, s.g, s.h⟩ : St)).mix.d), w32 (((⟨(s.a : UInt32) ^^^ ((d).a : UInt32), (s.b : UInt32) ^^^ ((d).b : UInt32), (s.c : UInt32) ^^^ ((d).c : UInt32), (s.d : UInt32) ^^^ ((d).d : UInt32), s.e, s.f, s.g, s.h⟩ : St)).mix.e), w32 (((⟨(s.a : UInt32) ^^^ ((d).a : UInt32), (s.b : UInt32) ^^^ ((d).b : UInt32), (s.c : UInt32) ^^^ ((d).c : UInt32), (s.d : UInt32) ^^^ ((d).d : UInt32), s.e, s.f, s.g, s.h⟩ : St)).mix.f), w32 (((⟨(s.a : UInt32) ^^^ ((d).a : UInt32), (s.b : UInt32) ^^^ ((d).b : UInt32), (s.c : UInt32) ^^^ ((d).c : UInt32), (s.d : UInt32) ^^^ ((d).d : UInt32), s.e, s.f, s.g, s.h⟩ : St)).mix.g), w32 (((⟨(s.a : UInt32) ^^^ ((d).a : UInt32), (s.b : UInt32) ^^^ ((d).b : UInt32), (s.c : UInt32) ^^^ ((d).c : UInt32), (s.d : UInt32) ^^^ ((d).d : UInt32), s.e, s.f, s.g, s.h⟩ : St)).mix.h)]) (V := Value.agg #[w32 (((⟨(s.a : UInt32) ^^^ ((d).a : UInt32), (s.b : UInt32) ^^^ ((d).b : UInt32), (s.c : UInt32) ^^^ ((d).c : UInt32), (s.d : UInt32) ^^^ ((d).d : UInt32), s.e, s.f, s.g, s.h⟩ : St)).mix.a), w32 (((⟨(s.a : UInt32) ^^^ ((d).a : UInt32), (s.b : UInt32) ^^^ ((d).b : UInt32), (s.c : UInt32) ^^^ ((d).c : UInt32), (s.d : UInt32) ^^^ ((d).d : UInt32), s.e, s.f, s.g, s.h⟩ : St)).mix.b), w32 (((⟨(s.a : UInt32) ^^^ ((d).a : UInt32), (s.b : UInt32) ^^^ ((d).b : UInt32), (s.c : UInt32) ^^^ ((d).c : UInt32), (s.d : UInt32) ^^^ ((d).d : UInt32), s.e, s.f, s.g, s.h⟩ : St)).mix.c), w32 (((⟨(s.a : UInt32) ^^^ ((d).a : UInt32), (s.b : UInt32) ^^^ ((d).b : UInt32), (s.c : UInt32) ^^^ ((d).c : UInt32), (s.d : UInt32) ^^^ ((d).d : UInt32), s.e, s.f, s.g, s.h⟩ : St)).mix.d), w32 (((⟨(s.a : UInt32) ^^^ ((d).a : UInt32), (s.b : UInt32) ^^^ ((d).b : UInt32), (s.c : UInt32) ^^^ ((d).c : UInt32), (s.d : UInt32) ^^^ ((d).d : UInt32), s.e, s.f, s.g, s.h⟩ : St)).mix.e), w32 (((⟨(s.a : UInt32) ^^^ ((d).a : UInt32), (s.b : UInt32) ^^^ ((d).b : UInt32), (s.c : UInt32) ^^^ ((d).c : UInt32), (s.d : UInt32) ^^^ ((d).d : UInt32), s.e, s.f, s.g, s.h⟩ : St)).mix.f), w32 (((⟨(s.a : UInt32) ^^^ ((d).a : UInt32), (s.b : UInt32) ^^^ ((d).b : UInt32), (s.c : UInt32) ^^^ ((d).c : UInt32), (s.d : UInt32) ^^^ ((d).d : UInt32), s.e, s.f, s.g, s.h⟩ : St)).mix.g), w32 (((⟨(s.a : UInt32) ^^^ ((d).a : UInt32), (s.b : UInt32) ^^^ ((d).b : UInt32), (s.c : UInt32) ^^^ ((d).c : UInt32), (s.d : UInt32) ^^^ ((d).d : UInt32), s.e, s.f, s.g, s.h⟩ : St)).mix.h)]) s4_24 s20_24 hbb4_24 (Nat.le_of_ble_eq_true rfl) rfl siz_83 rfl rfl (fun wd25 hX hz hbb4_25 => ?_))
 have hE_25 := hE_24.since hX (fun k e => e ▸ fr_b4)
 have hbb2_25 := hbb2_24.ext hX ne_b2_b4
 have hbb3_25 := hbb3_24.ext hX ne_b3_b4
 clear hX hz hE_24 hbb2_24 hbb3_24 hbb4_24
 refine tail_nil ?_
 refine wp_ret ?_
 refine res_one (V := Value.agg #[w32 (((⟨(s.a : UInt32) ^^^ ((d).a : UInt32), (s.b : UInt32) ^^^ ((d).b : UInt32), (s.c : UInt32) ^^^ ((d).c : UInt32), (s.d : UInt32) ^^^ ((d).d : UInt32), s.e, s.f, s.g, s.h⟩ : St)).mix.a), w32 (((⟨(s.a : UInt32) ^^^ ((d).a : UInt32), (s.b : UInt32) ^^^ ((d).b : UInt32), (s.c : UInt32) ^^^ ((d).c : UInt32), (s.d : UInt32) ^^^ ((d).d : UInt32), s.e, s.f, s.g, s.h⟩ : St)).mix.b), w32 (((⟨(s.a : UInt32) ^^^ ((d).a : UInt32), (s.b : UInt32) ^^^ ((d).b : UInt32), (s.c : UInt32) ^^^ ((d).c : UInt32), (s.d : UInt32) ^^^ ((d).d : UInt32), s.e, s.f, s.g, s.h⟩ : St)).mix.c), w32 (((⟨(s.a : UInt32) ^^^ ((d).a : UInt32), (s.b : UInt32) ^^^ ((d).b : UInt32), (s.c : UInt32) ^^^ ((d).c : UInt32), (s.d : UInt32) ^^^ ((d).d : UInt32), s.e, s.f, s.g, s.h⟩ : St)).mix.d), w32 (((⟨(s.a : UInt32) ^^^ ((d).a : UInt32), (s.b : UInt32) ^^^ ((d).b : UInt32), (s.c : UInt32) ^^^ ((d).c : UInt32), (s.d : UInt32) ^^^ ((d).d : UInt32), s.e, s.f, s.g, s.h⟩ : St)).mix.e), w32 (((⟨(s.a : UInt32) ^^^ ((d).a : UInt32), (s.b : UInt32) ^^^ ((d).b : UInt32), (s.c : UInt32) ^^^ ((d).c : UInt32), (s.d : UInt32) ^^^ ((d).d : UInt32), s.e, s.f, s.g, s.h⟩ : St)).mix.f), w32 (((⟨(s.a : UInt32) ^^^ ((d).a : UInt32), (s.b : UInt32) ^^^ ((d).b : UInt32), (s.c : UInt32) ^^^ ((d).c : UInt32), (s.d : UInt32) ^^^ ((d).d : UInt32), s.e, s.f, s.g, s.h⟩ : St)).mix.g), w32 (((⟨(s.a : UInt32) ^^^ ((d).a : UInt32), (s.b : UInt32) ^^^ ((d).b : UInt32), (s.c : UInt32) ^^^ ((d).c : UInt32), (s.d : UInt32) ^^^ ((d).d : UInt32), s.e, s.f, s.g, s.h⟩ : St)).mix.h)]) rfl hD_24 (ResIs.cell s4_24 hbb4_25 row_83 rfl rfl) ?_
 exact ⟨rfl, hE_25⟩

theorem pair_ (a b : Dg) (w0 : World) (hL : Laid w0) :
    Gives Tryd.prog 46 #[Dg.val (a), Dg.val (b)] w0 (Pr.ex (Dg.val (pair a b))) := by
 refine enter (N := 9) Tryd.func46 rfl rfl ?_
 intro a0 hN_0 hD_0 hA
 have s0_0 : get a0 0 = Dg.val (a) := hA 0 _ rfl
 have s1_0 : get a0 1 = Dg.val (b) := hA 1 _ rfl
 clear hA
 have hE_0 : Ext w0 w0 := Ext.refl w0
 refine wp_seq ?_
 refine region_lex [2, 3, 4] [(2, Pr.box' w0.heap.size 24 [w32 (a).a, w32 (a).b, w32 (a).c, w32 (a).d]), (3, Pr.box' w0.heap.size 24 [w32 (b).a, w32 (b).b, w32 (b).c, w32 (b).d]), (4, Pr.box' w0.heap.size 24 [w32 (Dg.zero).a, w32 (Dg.zero).b, w32 (Dg.zero).c, w32 (Dg.zero).d])] 3 hN_0 hD_0 (by kernel_rfl) (by kernel_rfl) ?_ ?_
 refine Asks.cons ?_ (Asks.cons ?_ (Asks.cons ?_ (Asks.zero _)))
 refine Ask.fresh rfl rfl ?_
 intro aq wq hNq hO hR hT
 exact does_box (V := Dg.val (a)) ((hO 0 rfl).trans s0_0) (fun b w2 he hlo hb => ⟨he, ⟨b, rfl, Nat.le_trans hR.size' hlo, hb⟩, ⟨b, rfl, hlo, hb.lt⟩⟩)
 refine Ask.fresh rfl rfl ?_
 intro aq wq hNq hO hR hT
 exact does_box (V := Dg.val (b)) ((hO 1 rfl).trans s1_0) (fun b w2 he hlo hb => ⟨he, ⟨b, rfl, Nat.le_trans hR.size' hlo, hb⟩, ⟨b, rfl, hlo, hb.lt⟩⟩)
 refine Ask.fresh rfl rfl ?_
 intro aq wq hNq hO hR hT
 exact does_alloc zero_24 (fun b w2 he hlo hb => ⟨he, ⟨b, rfl, Nat.le_trans hR.size' hlo, hb⟩, ⟨b, rfl, hlo, hb.lt⟩⟩)
 intro a1 wd1 hN_1 hD_1 hO hR hA hU
 obtain ⟨t2, t3, t4, _⟩ := hA
 have hE_1 := hE_0.trans hR
 obtain ⟨b2, s2_1, lo_b2, hbb2_1⟩ := t2
 have fr_b2 : w0.heap.size ≤ b2 := Nat.le_trans hE_0.size' lo_b2
 obtain ⟨b3, s3_1, lo_b3, hbb3_1⟩ := t3
 have fr_b3 : w0.heap.size ≤ b3 := Nat.le_trans hE_0.size' lo_b3
 obtain ⟨b4, s4_1, lo_b4, hbb4_1⟩ := t4
 have fr_b4 : w0.heap.size ≤ b4 := Nat.le_trans hE_0.size' lo_b4
 obtain ⟨u0, ⟨u1, ⟨u2, _⟩⟩⟩ := hU
 have ne_b2_b3 : b2 ≠ b3 := fun e => u0 3 (by decide) (by rw [s2_1, s3_1, e])
 have ne_b2_b4 : b2 ≠ b4 := fun e => u0 4 (by decide) (by rw [s2_1, s4_1, e])
 have ne_b3_b4 : b3 ≠ b4 := fun e => u1 4 (by decide) (by rw [s3_1, s4_1, e])
 clear hE_0 hN_0 hD_0 s0_0 s1_0
 refine tail_nil ?_
 refine wp_seq ?_
 refine region_any [] [(5, Pr.ex (Value.slice (some ⟨b2, 0, none⟩) 4 4)), (6, Pr.ex (Value.slice (some ⟨b3, 0, none⟩) 4 4))] 2 mixed hN_1 hD_1 (by kernel_rfl) (by kernel_rfl) (by kernel_rfl) ?_ ?_
 refine Asks.cons ?_ (Asks.cons ?_ (Asks.zero _))
 exact Ask.plainD rfl rfl fun aq wq hNq hO hR hT => does_arrAll arr_24 ((hO 2 rfl).trans s2_1) ⟨Ext.refl _, rfl⟩
 exact Ask.plainD rfl rfl fun aq wq hNq hO hR hT => does_arrAll arr_24 ((hO 3 rfl).trans s3_1) ⟨Ext.refl _, rfl⟩
 intro a2 wd2 hN_2 hD_2 hO hR hA hU
 obtain ⟨t5, t6, _⟩ := hA
 have hE_2 := hE_1.trans hR
 have s4_2 := (hO 4 rfl).trans s4_1
 have hbb2_2 := hbb2_1.ext' hR
 have hbb3_2 := hbb3_1.ext' hR
 have hbb4_2 := hbb4_1.ext' hR
 have s5_2 : get a2 5 = Value.slice (some ⟨b2, 0, none⟩) 4 4 := t5
 have s6_2 : get a2 6 = Value.slice (some ⟨b3, 0, none⟩) 4 4 := t6
 clear hE_1 hN_1 hD_1 s2_1 s3_1 s4_1 hbb2_1 hbb3_1 hbb4_1
 refine tail_put rfl rfl hN_2 hD_2 (by decide) (does_appendG (T := W32) (base := wd2.heap.size) (xs := [(a).a, (a).b, (a).c, (a).d]) (ys := [(b).a, (b).b, (b).c, (b).d]) app_70 s5_2 (SlT.at s5_2 (SlT.ofHas (T := W32) (xs := [(a).a, (a).b, (a).c, (a).d]) hbb2_2 rfl rfl (Nat.le_of_ble_eq_true rfl) (Nat.le_of_ble_eq_true rfl))) (SlT.at s6_2 (SlT.ofHas (T := W32) (xs := [(b).a, (b).b, (b).c, (b).d]) hbb3_2 rfl rfl (Nat.le_of_ble_eq_true rfl) (Nat.le_of_ble_eq_true rfl))) (by simp) (by simp) (by simp) (Nat.le_refl _) (fun x7 wd3 he hox7_3 hk a3 hN_3 hD_3 hv hO => ?_))
 have hE_3 := hE_2.trans he
 have hbb2_3 := hbb2_2.ext' he
 have hbb3_3 := hbb3_2.ext' he
 have hbb4_3 := hbb4_2.ext' he
 have nbo_x7_b2 : x7.ownBlock ≠ some b2 := fun e => Nat.lt_irrefl _ (Nat.lt_of_lt_of_le hbb2_2.lt (OwnT.block_lt hox7_3 e).1)
 have nbo_x7_b3 : x7.ownBlock ≠ some b3 := fun e => Nat.lt_irrefl _ (Nat.lt_of_lt_of_le hbb3_2.lt (OwnT.block_lt hox7_3 e).1)
 have nbo_x7_b4 : x7.ownBlock ≠ some b4 := fun e => Nat.lt_irrefl _ (Nat.lt_of_lt_of_le hbb4_2.lt (OwnT.block_lt hox7_3 e).1)
 have hsx7_3 := hox7_3.sl.wide (Nat.zero_le _) (.inl rfl)
 replace hox7_3 := OwnT.base hox7_3 hE_2.size'
 have s7_3 := hv
 have s4_3 := (hO 4 rfl).trans s4_2
 clear hO hv hk hN_2 hD_2 hE_2 hbb2_2 hbb3_2 hbb4_2 s4_2 s5_2 s6_2
 refine tail_put rfl rfl hN_3 hD_3 (by decide) (does_ret (vs := #[w32 (2), x7]) call_61 (args2 rfl s7_3) rfl ((take (2) ([(a).a, (a).b, (a).c, (a).d] ++ [(b).a, (b).b, (b).c, (b).d]) (x7) wd3 (hL.ext hE_3) (hsx7_3.wide (Nat.zero_le _) (.inl rfl))).mono fun v wd4 h => fun a4 hN_4 hD_4 hv hO => ?_))
 have he := h.2
 have hR := he
 have hp : (Pr.ex (Dg.val (((St.first 2).takes ([(a).a, (a).b, (a).c, (a).d] ++ [(b).a, (b).b, (b).c, (b).d])).out))).p v wd4 := h.1
 clear h
 have hE_4 := hE_3.trans he
 have hbb2_4 := hbb2_3.ext' he
 have hbb3_4 := hbb3_3.ext' he
 have hbb4_4 := hbb4_3.ext' he
 have hsx7_4 := hsx7_3.ext' he
 have hox7_4 := hox7_3.ext' he
 replace hp : v = Dg.val (((St.first 2).takes ([(a).a, (a).b, (a).c, (a).d] ++ [(b).a, (b).b, (b).c, (b).d])).out) := hp
 have s8_4 := hv.trans hp
 have s4_4 := (hO 4 rfl).trans s4_3
 clear hO hv hN_3 hD_3 hE_3 hbb2_3 hbb3_3 hbb4_3 hsx7_3 hox7_3 s4_3 s7_3
 refine tail_none rfl rfl (does_storeD (o := 0) (n := 4) (cs' := [w32 (((St.first 2).takes ([(a).a, (a).b, (a).c, (a).d] ++ [(b).a, (b).b, (b).c, (b).d])).out).a, w32 (((St.first 2).takes ([(a).a, (a).b, (a).c, (a).d] ++ [(b).a, (b).b, (b).c, (b).d])).out).b, w32 (((St.first 2).takes ([(a).a, (a).b, (a).c, (a).d] ++ [(b).a, (b).b, (b).c, (b).d])).out).c, w32 (((St.first 2).takes ([(a).a, (a).b, (a).c, (a).d] ++ [(b).a, (b).b, (b).c, (b).d])).out).d]) (V := Dg.val (((St.first 2).takes ([(a).a, (a).b, (a).c, (a).d] ++ [(b).a, (b).b, (b).c, (b).d])).out)) s4_4 s8_4 hbb4_4 (Nat.le_of_ble_eq_true rfl) rfl siz_24 rfl rfl (fun wd5 hX hz hbb4_5 => ?_))
 have hE_5 := hE_4.since hX (fun k e => e ▸ fr_b4)
 have hbb2_5 := hbb2_4.ext hX ne_b2_b4
 have hbb3_5 := hbb3_4.ext hX ne_b3_b4
 have hsx7_5 := SlT.over hsx7_4 hX (fun _ => nbo_x7_b4)
 have hox7_5 := OwnT.ext hox7_4 hX (fun k hk e => nbo_x7_b4 (e ▸ hk))
 clear hX hz hE_4 hbb2_4 hbb3_4 hbb4_4 hsx7_4 hox7_4
 refine tail_nil ?_
 refine wp_ret ?_
 refine res_one (V := Dg.val (((St.first 2).takes ([(a).a, (a).b, (a).c, (a).d] ++ [(b).a, (b).b, (b).c, (b).d])).out)) rfl hD_4 (ResIs.cell s4_4 hbb4_5 row_24 rfl rfl) ?_
 exact ⟨rfl, hE_5⟩

theorem pairR (a b : Dg) (w0 : World) :
    Gives Tryd.prog 48 #[Dg.val (a), Dg.val (b)] w0 (Pr.ex (Dg.val (pair a b))) := by
 refine enter (N := 20) Tryd.func48 rfl rfl ?_
 intro a0 hN_0 hD_0 hA
 have s0_0 : get a0 0 = Dg.val (a) := hA 0 _ rfl
 have s1_0 : get a0 1 = Dg.val (b) := hA 1 _ rfl
 clear hA
 have hE_0 : Ext w0 w0 := Ext.refl w0
 refine wp_seq ?_
 refine region_lex [2, 3, 4] [(2, Pr.box' w0.heap.size 24 [w32 (a).a, w32 (a).b, w32 (a).c, w32 (a).d]), (3, Pr.box' w0.heap.size 24 [w32 (b).a, w32 (b).b, w32 (b).c, w32 (b).d]), (4, Pr.box' w0.heap.size 24 [w32 (Dg.zero).a, w32 (Dg.zero).b, w32 (Dg.zero).c, w32 (Dg.zero).d])] 3 hN_0 hD_0 (by kernel_rfl) (by kernel_rfl) ?_ ?_
 refine Asks.cons ?_ (Asks.cons ?_ (Asks.cons ?_ (Asks.zero _)))
 refine Ask.fresh rfl rfl ?_
 intro aq wq hNq hO hR hT
 exact does_box (V := Dg.val (a)) ((hO 0 rfl).trans s0_0) (fun b w2 he hlo hb => ⟨he, ⟨b, rfl, Nat.le_trans hR.size' hlo, hb⟩, ⟨b, rfl, hlo, hb.lt⟩⟩)
 refine Ask.fresh rfl rfl ?_
 intro aq wq hNq hO hR hT
 exact does_box (V := Dg.val (b)) ((hO 1 rfl).trans s1_0) (fun b w2 he hlo hb => ⟨he, ⟨b, rfl, Nat.le_trans hR.size' hlo, hb⟩, ⟨b, rfl, hlo, hb.lt⟩⟩)
 refine Ask.fresh rfl rfl ?_
 intro aq wq hNq hO hR hT
 exact does_alloc zero_24 (fun b w2 he hlo hb => ⟨he, ⟨b, rfl, Nat.le_trans hR.size' hlo, hb⟩, ⟨b, rfl, hlo, hb.lt⟩⟩)
 intro a1 wd1 hN_1 hD_1 hO hR hA hU
 obtain ⟨t2, t3, t4, _⟩ := hA
 have hE_1 := hE_0.trans hR
 obtain ⟨b2, s2_1, lo_b2, hbb2_1⟩ := t2
 have fr_b2 : w0.heap.size ≤ b2 := Nat.le_trans hE_0.size' lo_b2
 obtain ⟨b3, s3_1, lo_b3, hbb3_1⟩ := t3
 have fr_b3 : w0.heap.size ≤ b3 := Nat.le_trans hE_0.size' lo_b3
 obtain ⟨b4, s4_1, lo_b4, hbb4_1⟩ := t4
 have fr_b4 : w0.heap.size ≤ b4 := Nat.le_trans hE_0.size' lo_b4
 obtain ⟨u0, ⟨u1, ⟨u2, _⟩⟩⟩ := hU
 have ne_b2_b3 : b2 ≠ b3 := fun e => u0 3 (by decide) (by rw [s2_1, s3_1, e])
 have ne_b2_b4 : b2 ≠ b4 := fun e => u0 4 (by decide) (by rw [s2_1, s4_1, e])
 have ne_b3_b4 : b3 ≠ b4 := fun e => u1 4 (by decide) (by rw [s3_1, s4_1, e])
 clear hE_0 hN_0 hD_0 s0_0 s1_0
 refine tail_nil ?_
 refine wp_seq ?_
 refine region_any [5] [(6, Pr.ex (Value.agg #[w32 (2), w32 (0), w32 (0), w32 (0), w32 (0), w32 (0), w32 (0), w32 (0)])), (7, Pr.ex (Dg.val (a))), (8, Pr.ex (Value.agg #[w32 (((⟨(2 : UInt32), 0, 0, 0, 0, 0, 0, 0⟩ : St).take a).a), w32 (((⟨(2 : UInt32), 0, 0, 0, 0, 0, 0, 0⟩ : St).take a).b), w32 (((⟨(2 : UInt32), 0, 0, 0, 0, 0, 0, 0⟩ : St).take a).c), w32 (((⟨(2 : UInt32), 0, 0, 0, 0, 0, 0, 0⟩ : St).take a).d), w32 (((⟨(2 : UInt32), 0, 0, 0, 0, 0, 0, 0⟩ : St).take a).e), w32 (((⟨(2 : UInt32), 0, 0, 0, 0, 0, 0, 0⟩ : St).take a).f), w32 (((⟨(2 : UInt32), 0, 0, 0, 0, 0, 0, 0⟩ : St).take a).g), w32 (((⟨(2 : UInt32), 0, 0, 0, 0, 0, 0, 0⟩ : St).take a).h)])), (9, Pr.ex (Dg.val (b))), (10, Pr.ex (Value.agg #[w32 (((((⟨(2 : UInt32), 0, 0, 0, 0, 0, 0, 0⟩ : St).take a)).take b).a), w32 (((((⟨(2 : UInt32), 0, 0, 0, 0, 0, 0, 0⟩ : St).take a)).take b).b), w32 (((((⟨(2 : UInt32), 0, 0, 0, 0, 0, 0, 0⟩ : St).take a)).take b).c), w32 (((((⟨(2 : UInt32), 0, 0, 0, 0, 0, 0, 0⟩ : St).take a)).take b).d), w32 (((((⟨(2 : UInt32), 0, 0, 0, 0, 0, 0, 0⟩ : St).take a)).take b).e), w32 (((((⟨(2 : UInt32), 0, 0, 0, 0, 0, 0, 0⟩ : St).take a)).take b).f), w32 (((((⟨(2 : UInt32), 0, 0, 0, 0, 0, 0, 0⟩ : St).take a)).take b).g), w32 (((((⟨(2 : UInt32), 0, 0, 0, 0, 0, 0, 0⟩ : St).take a)).take b).h)])), (5, Pr.box' wd1.heap.size 83 [w32 (0), w32 (0), w32 (0), w32 (0), w32 (0), w32 (0), w32 (0), w32 (0)])] 6 mixed hN_1 hD_1 (by kernel_rfl) (by kernel_rfl) (by kernel_rfl) ?_ ?_
 refine Asks.cons ?_ (Asks.cons ?_ (Asks.cons ?_ (Asks.cons ?_ (Asks.cons ?_ (Asks.cons ?_ (Asks.zero _))))))
 exact Ask.plainD rfl rfl fun aq wq hNq hO hR hT => does_build (vs := #[(0, w32 (2))]) (V := Value.agg #[w32 (2), w32 (0), w32 (0), w32 (0), w32 (0), w32 (0), w32 (0), w32 (0)]) (parts1 rfl) (by kernel_rfl) ⟨Ext.refl _, rfl⟩
 exact Ask.plainD rfl rfl fun aq wq hNq hO hR hT => does_loadD (o := 0) (n := 4) (mid := [w32 (a).a, w32 (a).b, w32 (a).c, w32 (a).d]) ((hO 2 rfl).trans s2_1) (hbb2_1.ext' hR) rfl rfl (Nat.le_of_ble_eq_true rfl) row_24 rfl ⟨Ext.refl _, rfl⟩
 exact Ask.plainD rfl rfl fun aq wq hNq hO hR hT => does_ret (vs := #[Value.agg #[w32 (2), w32 (0), w32 (0), w32 (0), w32 (0), w32 (0), w32 (0), w32 (0)], Dg.val (a)]) call_58 (args2 (hT 6 rfl rfl) (hT 7 rfl rfl)) rfl ((takeR (⟨(2 : UInt32), 0, 0, 0, 0, 0, 0, 0⟩ : St) (a) wq).mono fun v w2 h => ⟨h.2, h.1⟩)
 exact Ask.plainD rfl rfl fun aq wq hNq hO hR hT => does_loadD (o := 0) (n := 4) (mid := [w32 (b).a, w32 (b).b, w32 (b).c, w32 (b).d]) ((hO 3 rfl).trans s3_1) (hbb3_1.ext' hR) rfl rfl (Nat.le_of_ble_eq_true rfl) row_24 rfl ⟨Ext.refl _, rfl⟩
 exact Ask.plainD rfl rfl fun aq wq hNq hO hR hT => does_ret (vs := #[Value.agg #[w32 (((⟨(2 : UInt32), 0, 0, 0, 0, 0, 0, 0⟩ : St).take a).a), w32 (((⟨(2 : UInt32), 0, 0, 0, 0, 0, 0, 0⟩ : St).take a).b), w32 (((⟨(2 : UInt32), 0, 0, 0, 0, 0, 0, 0⟩ : St).take a).c), w32 (((⟨(2 : UInt32), 0, 0, 0, 0, 0, 0, 0⟩ : St).take a).d), w32 (((⟨(2 : UInt32), 0, 0, 0, 0, 0, 0, 0⟩ : St).take a).e), w32 (((⟨(2 : UInt32), 0, 0, 0, 0, 0, 0, 0⟩ : St).take a).f), w32 (((⟨(2 : UInt32), 0, 0, 0, 0, 0, 0, 0⟩ : St).take a).g), w32 (((⟨(2 : UInt32), 0, 0, 0, 0, 0, 0, 0⟩ : St).take a).h)], Dg.val (b)]) call_58 (args2 (hT 8 rfl rfl) (hT 9 rfl rfl)) rfl ((takeR (((⟨(2 : UInt32), 0, 0, 0, 0, 0, 0, 0⟩ : St).take a)) (b) wq).mono fun v w2 h => ⟨h.2, h.1⟩)
 refine Ask.fresh rfl rfl ?_
 intro aq wq hNq hO hR hT
 replace hR := (Ext.drew _).trans hR
 exact does_alloc zero_83 (fun b w2 he hlo hb => ⟨he, ⟨b, rfl, Nat.le_trans hR.size' hlo, hb⟩, ⟨b, rfl, hlo, hb.lt⟩⟩)
 intro a2 wd2 hN_2 hD_2 hO hR hA hU
 obtain ⟨_, _, _, _, t10, t5, _⟩ := hA
 have hE_2 := hE_1.trans hR
 have s4_2 := (hO 4 rfl).trans s4_1
 have hbb2_2 := hbb2_1.ext' hR
 have hbb3_2 := hbb3_1.ext' hR
 have hbb4_2 := hbb4_1.ext' hR
 have s10_2 : get a2 10 = Value.agg #[w32 (((((⟨(2 : UInt32), 0, 0, 0, 0, 0, 0, 0⟩ : St).take a)).take b).a), w32 (((((⟨(2 : UInt32), 0, 0, 0, 0, 0, 0, 0⟩ : St).take a)).take b).b), w32 (((((⟨(2 : UInt32), 0, 0, 0, 0, 0, 0, 0⟩ : St).take a)).take b).c), w32 (((((⟨(2 : UInt32), 0, 0, 0, 0, 0, 0, 0⟩ : St).take a)).take b).d), w32 (((((⟨(2 : UInt32), 0, 0, 0, 0, 0, 0, 0⟩ : St).take a)).take b).e), w32 (((((⟨(2 : UInt32), 0, 0, 0, 0, 0, 0, 0⟩ : St).take a)).take b).f), w32 (((((⟨(2 : UInt32), 0, 0, 0, 0, 0, 0, 0⟩ : St).take a)).take b).g), w32 (((((⟨(2 : UInt32), 0, 0, 0, 0, 0, 0, 0⟩ : St).take a)).take b).h)] := t10
 obtain ⟨b5, s5_2, lo_b5, hbb5_2⟩ := t5
 have ne_b2_b5 : b2 ≠ b5 := fun e => Nat.lt_irrefl _ (Nat.lt_of_lt_of_le hbb2_1.lt (e ▸ lo_b5))
 have ne_b3_b5 : b3 ≠ b5 := fun e => Nat.lt_irrefl _ (Nat.lt_of_lt_of_le hbb3_1.lt (e ▸ lo_b5))
 have ne_b4_b5 : b4 ≠ b5 := fun e => Nat.lt_irrefl _ (Nat.lt_of_lt_of_le hbb4_1.lt (e ▸ lo_b5))
 have fr_b5 : w0.heap.size ≤ b5 := Nat.le_trans hE_1.size' lo_b5
 clear hE_1 hN_1 hD_1 s2_1 s3_1 s4_1 hbb2_1 hbb3_1 hbb4_1
 refine tail_none rfl rfl (does_storeD (o := 0) (n := 8) (cs' := [w32 (((((⟨(2 : UInt32), 0, 0, 0, 0, 0, 0, 0⟩ : St).take a)).take b).a), w32 (((((⟨(2 : UInt32), 0, 0, 0, 0, 0, 0, 0⟩ : St).take a)).take b).b), w32 (((((⟨(2 : UInt32), 0, 0, 0, 0, 0, 0, 0⟩ : St).take a)).take b).c), w32 (((((⟨(2 : UInt32), 0, 0, 0, 0, 0, 0, 0⟩ : St).take a)).take b).d), w32 (((((⟨(2 : UInt32), 0, 0, 0, 0, 0, 0, 0⟩ : St).take a)).take b).e), w32 (((((⟨(2 : UInt32), 0, 0, 0, 0, 0, 0, 0⟩ : St).take a)).take b).f), w32 (((((⟨(2 : UInt32), 0, 0, 0, 0, 0, 0, 0⟩ : St).take a)).take b).g), w32 (((((⟨(2 : UInt32), 0, 0, 0, 0, 0, 0, 0⟩ : St).take a)).take b).h)]) (V := Value.agg #[w32 (((((⟨(2 : UInt32), 0, 0, 0, 0, 0, 0, 0⟩ : St).take a)).take b).a), w32 (((((⟨(2 : UInt32), 0, 0, 0, 0, 0, 0, 0⟩ : St).take a)).take b).b), w32 (((((⟨(2 : UInt32), 0, 0, 0, 0, 0, 0, 0⟩ : St).take a)).take b).c), w32 (((((⟨(2 : UInt32), 0, 0, 0, 0, 0, 0, 0⟩ : St).take a)).take b).d), w32 (((((⟨(2 : UInt32), 0, 0, 0, 0, 0, 0, 0⟩ : St).take a)).take b).e), w32 (((((⟨(2 : UInt32), 0, 0, 0, 0, 0, 0, 0⟩ : St).take a)).take b).f), w32 (((((⟨(2 : UInt32), 0, 0, 0, 0, 0, 0, 0⟩ : St).take a)).take b).g), w32 (((((⟨(2 : UInt32), 0, 0, 0, 0, 0, 0, 0⟩ : St).take a)).take b).h)]) s5_2 s10_2 hbb5_2 (Nat.le_of_ble_eq_true rfl) rfl siz_83 rfl rfl (fun wd3 hX hz hbb5_3 => ?_))
 have hE_3 := hE_2.since hX (fun k e => e ▸ fr_b5)
 have hbb2_3 := hbb2_2.ext hX ne_b2_b5
 have hbb3_3 := hbb3_2.ext hX ne_b3_b5
 have hbb4_3 := hbb4_2.ext hX ne_b4_b5
 clear hX hz hE_2 hbb2_2 hbb3_2 hbb4_2 hbb5_2
 refine tail_nil ?_
 refine wp_seq ?_
 refine region_lex [] [(11, Pr.ex (Value.pointer (some ⟨b5, 0, none⟩))), (12, Pr.ex (w32 (((((⟨(2 : UInt32), 0, 0, 0, 0, 0, 0, 0⟩ : St).take a)).take b).a))), (13, Pr.ex (Value.pointer (some ⟨b5, 1, none⟩))), (14, Pr.ex (w32 (((((⟨(2 : UInt32), 0, 0, 0, 0, 0, 0, 0⟩ : St).take a)).take b).b))), (15, Pr.ex (Value.pointer (some ⟨b5, 2, none⟩))), (16, Pr.ex (w32 (((((⟨(2 : UInt32), 0, 0, 0, 0, 0, 0, 0⟩ : St).take a)).take b).c))), (17, Pr.ex (Value.pointer (some ⟨b5, 3, none⟩))), (18, Pr.ex (w32 (((((⟨(2 : UInt32), 0, 0, 0, 0, 0, 0, 0⟩ : St).take a)).take b).d))), (19, Pr.ex (Dg.val ((⟨((((⟨(2 : UInt32), 0, 0, 0, 0, 0, 0, 0⟩ : St).take a)).take b).a, ((((⟨(2 : UInt32), 0, 0, 0, 0, 0, 0, 0⟩ : St).take a)).take b).b, ((((⟨(2 : UInt32), 0, 0, 0, 0, 0, 0, 0⟩ : St).take a)).take b).c, ((((⟨(2 : UInt32), 0, 0, 0, 0, 0, 0, 0⟩ : St).take a)).take b).d⟩ : Dg))))] 9 hN_2 hD_2 (by kernel_rfl) (by kernel_rfl) ?_ ?_
 refine Asks.cons ?_ (Asks.cons ?_ (Asks.cons ?_ (Asks.cons ?_ (Asks.cons ?_ (Asks.cons ?_ (Asks.cons ?_ (Asks.cons ?_ (Asks.cons ?_ (Asks.zero _)))))))))
 exact Ask.plain rfl rfl fun aq wq hNq hO hR hT => does_indexArr (k := .i64) (i := 0) (o' := 0) arr_83 ((hO 5 rfl).trans s5_2) rfl (by decide) (by decide) rfl ⟨Ext.refl _, rfl⟩
 exact Ask.plain rfl rfl fun aq wq hNq hO hR hT => does_loadD1 (o := 0) (V := w32 (((((⟨(2 : UInt32), 0, 0, 0, 0, 0, 0, 0⟩ : St).take a)).take b).a)) (hT 11 rfl rfl) (hbb5_3.ext' hR) rfl one_22 ⟨Ext.refl _, rfl⟩
 exact Ask.plain rfl rfl fun aq wq hNq hO hR hT => does_indexArr (k := .i64) (i := 1) (o' := 1) arr_83 ((hO 5 rfl).trans s5_2) rfl (by decide) (by decide) rfl ⟨Ext.refl _, rfl⟩
 exact Ask.plain rfl rfl fun aq wq hNq hO hR hT => does_loadD1 (o := 1) (V := w32 (((((⟨(2 : UInt32), 0, 0, 0, 0, 0, 0, 0⟩ : St).take a)).take b).b)) (hT 13 rfl rfl) (hbb5_3.ext' hR) rfl one_22 ⟨Ext.refl _, rfl⟩
 exact Ask.plain rfl rfl fun aq wq hNq hO hR hT => does_indexArr (k := .i64) (i := 2) (o' := 2) arr_83 ((hO 5 rfl).trans s5_2) rfl (by decide) (by decide) rfl ⟨Ext.refl _, rfl⟩
 exact Ask.plain rfl rfl fun aq wq hNq hO hR hT => does_loadD1 (o := 2) (V := w32 (((((⟨(2 : UInt32), 0, 0, 0, 0, 0, 0, 0⟩ : St).take a)).take b).c)) (hT 15 rfl rfl) (hbb5_3.ext' hR) rfl one_22 ⟨Ext.refl _, rfl⟩
 exact Ask.plain rfl rfl fun aq wq hNq hO hR hT => does_indexArr (k := .i64) (i := 3) (o' := 3) arr_83 ((hO 5 rfl).trans s5_2) rfl (by decide) (by decide) rfl ⟨Ext.refl _, rfl⟩
 exact Ask.plain rfl rfl fun aq wq hNq hO hR hT => does_loadD1 (o := 3) (V := w32 (((((⟨(2 : UInt32), 0, 0, 0, 0, 0, 0, 0⟩ : St).take a)).take b).d)) (hT 17 rfl rfl) (hbb5_3.ext' hR) rfl one_22 ⟨Ext.refl _, rfl⟩
 exact Ask.plain rfl rfl fun aq wq hNq hO hR hT => does_build (vs := #[(0, w32 (((((⟨(2 : UInt32), 0, 0, 0, 0, 0, 0, 0⟩ : St).take a)).take b).a)), (1, w32 (((((⟨(2 : UInt32), 0, 0, 0, 0, 0, 0, 0⟩ : St).take a)).take b).b)), (2, w32 (((((⟨(2 : UInt32), 0, 0, 0, 0, 0, 0, 0⟩ : St).take a)).take b).c)), (3, w32 (((((⟨(2 : UInt32), 0, 0, 0, 0, 0, 0, 0⟩ : St).take a)).take b).d))]) (V := Dg.val ((⟨((((⟨(2 : UInt32), 0, 0, 0, 0, 0, 0, 0⟩ : St).take a)).take b).a, ((((⟨(2 : UInt32), 0, 0, 0, 0, 0, 0, 0⟩ : St).take a)).take b).b, ((((⟨(2 : UInt32), 0, 0, 0, 0, 0, 0, 0⟩ : St).take a)).take b).c, ((((⟨(2 : UInt32), 0, 0, 0, 0, 0, 0, 0⟩ : St).take a)).take b).d⟩ : Dg))) (parts4 (hT 12 rfl rfl) (hT 14 rfl rfl) (hT 16 rfl rfl) (hT 18 rfl rfl)) (by kernel_rfl) ⟨Ext.refl _, rfl⟩
 intro a4 wd4 hN_4 hD_4 hO hR hA hU
 obtain ⟨_, _, _, _, _, _, _, _, t19, _⟩ := hA
 have hE_4 := hE_3.trans hR
 have s4_4 := (hO 4 rfl).trans s4_2
 have hbb2_4 := hbb2_3.ext' hR
 have hbb3_4 := hbb3_3.ext' hR
 have hbb4_4 := hbb4_3.ext' hR
 have hbb5_4 := hbb5_3.ext' hR
 have s19_4 : get a4 19 = Dg.val ((⟨((((⟨(2 : UInt32), 0, 0, 0, 0, 0, 0, 0⟩ : St).take a)).take b).a, ((((⟨(2 : UInt32), 0, 0, 0, 0, 0, 0, 0⟩ : St).take a)).take b).b, ((((⟨(2 : UInt32), 0, 0, 0, 0, 0, 0, 0⟩ : St).take a)).take b).c, ((((⟨(2 : UInt32), 0, 0, 0, 0, 0, 0, 0⟩ : St).take a)).take b).d⟩ : Dg)) := t19
 clear hE_3 hN_2 hD_2 s4_2 s5_2 s10_2 hbb2_3 hbb3_3 hbb4_3 hbb5_3
 refine tail_none rfl rfl (does_storeD (o := 0) (n := 4) (cs' := [w32 ((⟨((((⟨(2 : UInt32), 0, 0, 0, 0, 0, 0, 0⟩ : St).take a)).take b).a, ((((⟨(2 : UInt32), 0, 0, 0, 0, 0, 0, 0⟩ : St).take a)).take b).b, ((((⟨(2 : UInt32), 0, 0, 0, 0, 0, 0, 0⟩ : St).take a)).take b).c, ((((⟨(2 : UInt32), 0, 0, 0, 0, 0, 0, 0⟩ : St).take a)).take b).d⟩ : Dg)).a, w32 ((⟨((((⟨(2 : UInt32), 0, 0, 0, 0, 0, 0, 0⟩ : St).take a)).take b).a, ((((⟨(2 : UInt32), 0, 0, 0, 0, 0, 0, 0⟩ : St).take a)).take b).b, ((((⟨(2 : UInt32), 0, 0, 0, 0, 0, 0, 0⟩ : St).take a)).take b).c, ((((⟨(2 : UInt32), 0, 0, 0, 0, 0, 0, 0⟩ : St).take a)).take b).d⟩ : Dg)).b, w32 ((⟨((((⟨(2 : UInt32), 0, 0, 0, 0, 0, 0, 0⟩ : St).take a)).take b).a, ((((⟨(2 : UInt32), 0, 0, 0, 0, 0, 0, 0⟩ : St).take a)).take b).b, ((((⟨(2 : UInt32), 0, 0, 0, 0, 0, 0, 0⟩ : St).take a)).take b).c, ((((⟨(2 : UInt32), 0, 0, 0, 0, 0, 0, 0⟩ : St).take a)).take b).d⟩ : Dg)).c, w32 ((⟨((((⟨(2 : UInt32), 0, 0, 0, 0, 0, 0, 0⟩ : St).take a)).take b).a, ((((⟨(2 : UInt32), 0, 0, 0, 0, 0, 0, 0⟩ : St).take a)).take b).b, ((((⟨(2 : UInt32), 0, 0, 0, 0, 0, 0, 0⟩ : St).take a)).take b).c, ((((⟨(2 : UInt32), 0, 0, 0, 0, 0, 0, 0⟩ : St).take a)).take b).d⟩ : Dg)).d]) (V := Dg.val ((⟨((((⟨(2 : UInt32), 0, 0, 0, 0, 0, 0, 0⟩ : St).take a)).take b).a, ((((⟨(2 : UInt32), 0, 0, 0, 0, 0, 0, 0⟩ : St).take a)).take b).b, ((((⟨(2 : UInt32), 0, 0, 0, 0, 0, 0, 0⟩ : St).take a)).take b).c, ((((⟨(2 : UInt32), 0, 0, 0, 0, 0, 0, 0⟩ : St).take a)).take b).d⟩ : Dg))) s4_4 s19_4 hbb4_4 (Nat.le_of_ble_eq_true rfl) rfl siz_24 rfl rfl (fun wd5 hX hz hbb4_5 => ?_))
 have hE_5 := hE_4.since hX (fun k e => e ▸ fr_b4)
 have hbb2_5 := hbb2_4.ext hX ne_b2_b4
 have hbb3_5 := hbb3_4.ext hX ne_b3_b4
 have hbb5_5 := hbb5_4.ext hX ne_b4_b5.symm
 clear hX hz hE_4 hbb2_4 hbb3_4 hbb4_4 hbb5_4
 refine tail_nil ?_
 refine wp_ret ?_
 refine res_one (V := Dg.val ((⟨((((⟨(2 : UInt32), 0, 0, 0, 0, 0, 0, 0⟩ : St).take a)).take b).a, ((((⟨(2 : UInt32), 0, 0, 0, 0, 0, 0, 0⟩ : St).take a)).take b).b, ((((⟨(2 : UInt32), 0, 0, 0, 0, 0, 0, 0⟩ : St).take a)).take b).c, ((((⟨(2 : UInt32), 0, 0, 0, 0, 0, 0, 0⟩ : St).take a)).take b).d⟩ : Dg))) rfl hD_4 (ResIs.cell s4_4 hbb4_5 row_24 rfl rfl) ?_
 exact ⟨rfl, hE_5⟩

end Go.Proofs.YtaeohnkfmachfabDoor
