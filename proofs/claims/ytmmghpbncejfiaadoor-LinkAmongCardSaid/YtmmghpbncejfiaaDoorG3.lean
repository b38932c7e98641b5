/- The walks of functions of the program: printed. -/
import Derived.Test.YtmmghpbncejfiaaDoorG2
import Derived.Test.YtmmghpbncejfiaaDoorG2b
import Derived.Test.YtmmghpbncejfiaaDoorF0
set_option maxRecDepth 100000
namespace Go.Proofs.YtmmghpbncejfiaaDoor
open Go Go.RowKit Sk Sd
theorem take (f : UInt32) (l : List UInt32) (x1 : Value) (w0 : World) (hL : Laid w0) (hx1 : SlT W32 0 0 l x1 w0) :
    Gives Tryd.prog 34 #[w32 (f), x1] w0 (Pr.ex (Dg.val ((St.first f).takes l).out)) := by
 refine enter (N := 35) Tryd.func34 rfl rfl ?_
 intro a0 N0 D0 hA
 have s0_0 : get a0 0 = w32 (f) := hA 0 _ rfl
 have s1_0 : get a0 1 = x1 := hA 1 _ rfl
 clear hA
 have E0 : Ext w0 w0 := Ext.refl w0
 have X1_0 := hx1.close
 refine wp_seq ?_
 refine Rl [4] [(4, Pr.box' w0.heap.size 24 [w32 (Dg.zero).a, w32 (Dg.zero).b, w32 (Dg.zero).c, w32 (Dg.zero).d])] 1 N0 D0 ?_ ?_
 refine Ac ?_ (Az _)
 refine Ask.fresh rfl rfl ?_
 intro aq wq hNq hO hR hT
 exact does_alloc zero_24 (fun b w2 he hlo hb => ⟨he, ⟨b, rfl, Nat.le_trans hR.size' hlo, hb⟩, ⟨b, rfl, hlo, hb.lt⟩⟩)
 intro a1 wd1 N1 D1 hO hR hA hU
 obtain ⟨t4, _⟩ := hA
 have E1 := E0.trans hR
 have s0_1 := oT hO s0_0 rfl
 have s1_1 := oT hO s1_0 rfl
 have X1_1 := X1_0.ext' hR
 obtain ⟨b4, s4_1, lo_b4, B4_1⟩ := t4
 have nb_x1_b4 := SlT.old X1_0 lo_b4
 have fr_b4 : w0.heap.size ≤ b4 := Nat.le_trans E0.size' lo_b4
 clear E0 N0 D0 s0_0 s1_0 X1_0
 refine tail_nil ?_
 refine wp_seq ?_
 refine Rl [5] [(8, Pr.ex (w32 (f))), (9, Pr.ex (Value.agg #[w32 (f), w32 (0), w32 (0), w32 (0), w32 (0), w32 (0), w32 (0), w32 (0)])), (5, Pr.box' wd1.heap.size 75 [w32 (0), w32 (0), w32 (0), w32 (0), w32 (0), w32 (0), w32 (0), w32 (0)])] 3 N1 D1 ?_ ?_
 refine Ac ?_ (Ac ?_ (Ac ?_ (Az _)))
 exact Am s0_1 rfl fun _ => rfl
 exact Ap fun aq wq _ hO hR hT => does_build (vs := #[(0, w32 (f))]) (V := Value.agg #[w32 (f), w32 (0), w32 (0), w32 (0), w32 (0), w32 (0), w32 (0), w32 (0)]) (parts1 (hT 8 rfl rfl)) (by kernel_rfl) eR
 refine Ask.fresh rfl rfl ?_
 intro aq wq hNq hO hR hT
 exact does_alloc zero_75 (fun b w2 he hlo hb => ⟨he, ⟨b, rfl, Nat.le_trans hR.size' hlo, hb⟩, ⟨b, rfl, hlo, hb.lt⟩⟩)
 intro a2 wd2 N2 D2 hO hR hA hU
 obtain ⟨_, t9, t5, _⟩ := hA
 have E2 := E1.trans hR
 have s1_2 := oT hO s1_1 rfl
 have s4_2 := oT hO s4_1 rfl
 have B4_2 := B4_1.ext' hR
 have X1_2 := X1_1.ext' hR
 have s9_2 : get a2 9 = Value.agg #[w32 (f), w32 (0), w32 (0), w32 (0), w32 (0), w32 (0), w32 (0), w32 (0)] := t9
 obtain ⟨b5, s5_2, lo_b5, B5_2⟩ := t5
 have ne_b4_b5 := Hl B4_1 lo_b5
 have nb_x1_b5 := SlT.old X1_1 lo_b5
 have fr_b5 : w0.heap.size ≤ b5 := Nat.le_trans E1.size' lo_b5
 clear E1 N1 D1 s0_1 s1_1 s4_1 B4_1 X1_1
 refine tail_none rfl rfl (does_storeD (o := 0) (n := 8) (cs' := [w32 (f), w32 (0), w32 (0), w32 (0), w32 (0), w32 (0), w32 (0), w32 (0)]) (V := Value.agg #[w32 (f), w32 (0), w32 (0), w32 (0), w32 (0), w32 (0), w32 (0), w32 (0)]) s5_2 s9_2 B5_2 (nB rfl) rfl siz_75 rfl rfl (fun wd3 hX hz B5_3 => ?_))
 have E3 := E2.since hX (fun k e => e ▸ fr_b5)
 have B4_3 := B4_2.ext hX ne_b4_b5
 have X1_3 := SlT.over X1_2 hX nb_x1_b5
 clear hX hz E2 B4_2 B5_2 X1_2
 refine tail_nil ?_
 refine wp_seq ?_
 refine wp_block ?_
 refine loop_g (fun mz az wz => ∃ m : List UInt32, ∃ s : St, ∃ xl : Value, mz = m.length ∧ (az.tmps.size = 35) ∧ (az.defers = []) ∧ (get az 1 = xl) ∧ (get az 4 = Value.pointer (some ⟨b4, 0, none⟩)) ∧ (get az 5 = Value.pointer (some ⟨b5, 0, none⟩)) ∧ (Ext w0 wz) ∧ (Has wz b4 24 [w32 (Dg.zero).a, w32 (Dg.zero).b, w32 (Dg.zero).c, w32 (Dg.zero).d]) ∧ (Has wz b5 75 [w32 (s.a), w32 (s.b), w32 (s.c), w32 (s.d), w32 (s.e), w32 (s.f), w32 (s.g), w32 (s.h)]) ∧ (SlT W32 0 (w0.heap.size + 1) (l) x1 wz) ∧ (SlT W32 0 (w0.heap.size + 1) (m) xl wz) ∧ (s.takes m = (St.first f).takes l)) ?_ ?_
 exact ⟨_, l, (St.first f), x1, rfl, N2, D2, s1_2, s4_2, s5_2, E3, B4_3, B5_3, X1_3, X1_3, rfl⟩
 rintro mz a4 wd4 ⟨m, s, xl, rfl, N4, D4, s1_4, s4_4, s5_4, E4, B4_4, B5_4, X1_4, hsxl_4, hm⟩
 refine wp_seq ?_
 refine wp_seq ?_
 refine Rl [] [(10, Pr.ex (xl)), (11, Pr.ex (i64 (m.length : Int))), (12, Pr.ex (Value.bool (decide (((4 : Nat) : Int) ≤ (m.length : Int)))))] 3 N4 D4 ?_ ?_
 refine Ac ?_ (Ac ?_ (Ac ?_ (Az _)))
 exact Am s1_4 rfl fun _ => rfl
 exact Ap fun aq wq _ hO hR hT => does_len (T := W32) (xs := m) sli_58 (SlT.at (hT 10 rfl rfl) (hsxl_4.ext' hR)) eR
 exact Ap fun aq wq _ hO hR hT => does_geq (a := (m.length : Int)) (b := ((4 : Nat) : Int)) (hT 11 rfl rfl) rfl eR
 intro a5 wd5 N5 D5 hO hR hA hU
 obtain ⟨_, _, t12, _⟩ := hA
 have E5 := E4.trans hR
 have s1_5 := oT hO s1_4 rfl
 have s4_5 := oT hO s4_4 rfl
 have s5_5 := oT hO s5_4 rfl
 have B4_5 := B4_4.ext' hR
 have B5_5 := B5_4.ext' hR
 have X1_5 := X1_4.ext' hR
 have hsxl_5 := hsxl_4.ext' hR
 have s12_5 : get a5 12 = Value.bool (decide (((4 : Nat) : Int) ≤ (m.length : Int))) := t12
 clear E4 N4 D4 s1_4 s4_4 s5_4 B4_4 B5_4 X1_4 hsxl_4
 refine tail_nil ?_
 refine wp_if (B := decide (((4 : Nat) : Int) ≤ (m.length : Int))) s12_5 (fun hc0 => ?_) (fun hc0 => ?_)
 have hc0 := of_decide_eq_true hc0
 obtain ⟨p, q, r, t, m', hm4⟩ := four_of (l := m) (by omega)
 have hm5 : (m.take 4).length = 4 := by rw [hm4]; rfl
 refine wp_skip ?_
 refine wp_block ?_
 refine wp_seq ?_
 refine wp_seq ?_
 refine Rl [] [(13, Pr.ex (xl)), (14, Pr.sl' W32 0 (w0.heap.size + 1) (m.take 4)), (15, Pr.ex (i64 ((4 : Nat) : Int))), (16, Pr.ex (i64 ((0 : Nat) : Int)))] 4 N5 D5 ?_ ?_
 refine Ac ?_ (Ac ?_ (Ac ?_ (Ac ?_ (Az _))))
 exact Am s1_5 rfl fun _ => rfl
 exact Ap fun aq wq _ hO hR hT => does_sliceHi (T := W32) (xs := m) (k := ((4 : Nat) : Int)) sli_58 rfl (SlT.at (hT 13 rfl rfl) (hsxl_5.ext' hR)) rfl (by omega) (by omega) (fun v h => ⟨Ext.refl _, h⟩)
 exact Ap fun aq wq _ hO hR hT => does_lenN (T := W32) (xs := m.take 4) (n := 4) sli_58 (hT 14 rfl rfl) hm5 eR
 exact Ap fun aq wq _ hO hR hT => does_move (V := i64 ((0 : Nat) : Int)) rfl eR
 intro a6 wd6 N6 D6 hO hR hA hU
 obtain ⟨_, t14, t15, t16, _⟩ := hA
 have E6 := E5.trans hR
 have s1_6 := oT hO s1_5 rfl
 have s4_6 := oT hO s4_5 rfl
 have s5_6 := oT hO s5_5 rfl
 have B4_6 := B4_5.ext' hR
 have B5_6 := B5_5.ext' hR
 have X1_6 := X1_5.ext' hR
 have hsxl_6 := hsxl_5.ext' hR
 obtain ⟨x14, s14_6⟩ : ∃ x, get a6 14 = x := ⟨_, rfl⟩
 replace t14 : SlT W32 0 (w0.heap.size + 1) (m.take 4) x14 wd6 := by rw [← s14_6]; exact t14
 have X14_6 := t14
 have s15_6 : get a6 15 = i64 ((4 : Nat) : Int) := t15
 have s16_6 : get a6 16 = i64 ((0 : Nat) : Int) := t16
 clear E5 N5 D5 s1_5 s4_5 s5_5 s12_5 B4_5 B5_5 X1_5 hsxl_5
 refine tail_nil ?_
 refine wp_block ?_
 refine loop_rounds 5 ?_
 refine round_step ?_
 refine wp_seq ?_
 refine Rl [] [(17, Pr.ex (Value.bool (true)))] 1 N6 D6 ?_ ?_
 refine Ac ?_ (Az _)
 exact Ap fun aq wq _ hO hR hT => does_lss (a := ((0 : Nat) : Int)) (b := ((4 : Nat) : Int)) (oT hO s16_6 rfl) (oT hO s15_6 rfl) eR
 intro a7 wd7 N7 D7 hO hR hA hU
 obtain ⟨t17, _⟩ := hA
 have E7 := E6.trans hR
 have s1_7 := oT hO s1_6 rfl
 have s4_7 := oT hO s4_6 rfl
 have s5_7 := oT hO s5_6 rfl
 have s14_7 := oT hO s14_6 rfl
 have s15_7 := oT hO s15_6 rfl
 have s16_7 := oT hO s16_6 rfl
 have B4_7 := B4_6.ext' hR
 have B5_7 := B5_6.ext' hR
 have X1_7 := X1_6.ext' hR
 have hsxl_7 := hsxl_6.ext' hR
 have X14_7 := X14_6.ext' hR
 have s17_7 : get a7 17 = Value.bool (true) := t17
 clear E6 N6 D6 s1_6 s4_6 s5_6 s14_6 s15_6 s16_6 B4_6 B5_6 X1_6 hsxl_6 X14_6
 refine tail_nil ?_
 refine wp_seq ?_
 refine wp_ifT s17_7 ?_
 refine wp_skip ?_
 refine wp_seq ?_
 refine wp_block ?_
 refine wp_seq ?_
 refine Rl [] [(18, Pr.ex (i64 ((0 : Nat) : Int))), (19, Pr.pt' 0 (w0.heap.size + 1) [w32 (p)]), (20, Pr.ex (w32 (p))), (6, Pr.ex (i64 ((0 : Nat) : Int))), (7, Pr.ex (w32 (p)))] 5 N7 D7 ?_ ?_
 refine Ac ?_ (Ac ?_ (Ac ?_ (Ac ?_ (Ac ?_ (Az _)))))
 exact Am s16_7 rfl fun _ => rfl
 exact Ap fun aq wq _ hO hR hT => does_indexSl (T := W32) (xs := m.take 4) (i := ((0 : Nat) : Int)) (X := p) sli_58 rfl (SlT.at (oT hO s14_7 rfl) (X14_7.ext' hR)) (oT hO s16_7 rfl) (by omega) (by rw [hm4]; rfl) (fun v h => ⟨Ext.refl _, h⟩)
 exact Ap fun aq wq _ hO hR hT => does_loadP1 (V := w32 (p)) (hT 19 rfl rfl) one_22 eR
 exact Ap fun aq wq _ hO hR hT => does_assign (V := i64 ((0 : Nat) : Int)) (hT 18 rfl rfl) eR
 exact Ap fun aq wq _ hO hR hT => does_assign (V := w32 (p)) (hT 20 rfl rfl) eR
 intro a8 wd8 N8 D8 hO hR hA hU
 obtain ⟨_, _, _, t6, t7, _⟩ := hA
 have E8 := E7.trans hR
 have s1_8 := oT hO s1_7 rfl
 have s4_8 := oT hO s4_7 rfl
 have s5_8 := oT hO s5_7 rfl
 have s14_8 := oT hO s14_7 rfl
 have s15_8 := oT hO s15_7 rfl
 have s16_8 := oT hO s16_7 rfl
 have B4_8 := B4_7.ext' hR
 have B5_8 := B5_7.ext' hR
 have X1_8 := X1_7.ext' hR
 have hsxl_8 := hsxl_7.ext' hR
 have X14_8 := X14_7.ext' hR
 have s6_8 : get a8 6 = i64 ((0 : Nat) : Int) := t6
 have s7_8 : get a8 7 = w32 (p) := t7
 clear E7 N7 D7 s1_7 s4_7 s5_7 s14_7 s15_7 s16_7 s17_7 B4_7 B5_7 X1_7 hsxl_7 X14_7
 refine tail_nil ?_
 refine Rl [] [(21, Pr.ex (i64 ((0 : Nat) : Int))), (22, Pr.ex (Value.pointer (some ⟨b5, 0, none⟩))), (23, Pr.ex (w32 (s.a))), (24, Pr.ex (w32 (p))), (25, Pr.ex (w32 ((s.a : UInt32) ^^^ (p : UInt32)))), (26, Pr.ex (Value.pointer (some ⟨b5, 0, none⟩)))] 6 N8 D8 ?_ ?_
 refine Ac ?_ (Ac ?_ (Ac ?_ (Ac ?_ (Ac ?_ (Ac ?_ (Az _))))))
 exact Am s6_8 rfl fun _ => rfl
 exact Ap fun aq wq _ hO hR hT => does_indexArr (k := .i64) (i := 0) (o' := 0) arr_75 (oT hO s5_8 rfl) (hT 21 rfl rfl) (by decide) (by decide) rfl eR
 exact Ap fun aq wq _ hO hR hT => does_loadD1 (o := 0) (V := w32 (s.a)) (hT 22 rfl rfl) (B5_8.ext' hR) rfl one_22 eR
 exact Am s7_8 rfl fun _ => rfl
 exact Ap fun aq wq _ hO hR hT => does_xor32 (a := (s.a : UInt32)) (b := (p : UInt32)) (hT 23 rfl rfl) (hT 24 rfl rfl) eR
 exact Ap fun aq wq _ hO hR hT => does_indexArr (k := .i64) (i := 0) (o' := 0) arr_75 (oT hO s5_8 rfl) (hT 21 rfl rfl) (by decide) (by decide) rfl eR
 intro a9 wd9 N9 D9 hO hR hA hU
 obtain ⟨_, _, _, _, t25, t26, _⟩ := hA
 have E9 := E8.trans hR
 have s1_9 := oT hO s1_8 rfl
 have s4_9 := oT hO s4_8 rfl
 have s5_9 := oT hO s5_8 rfl
 have s14_9 := oT hO s14_8 rfl
 have s15_9 := oT hO s15_8 rfl
 have s16_9 := oT hO s16_8 rfl
 have B4_9 := B4_8.ext' hR
 have B5_9 := B5_8.ext' hR
 have X1_9 := X1_8.ext' hR
 have hsxl_9 := hsxl_8.ext' hR
 have X14_9 := X14_8.ext' hR
 have s25_9 : get a9 25 = w32 ((s.a : UInt32) ^^^ (p : UInt32)) := t25
 have s26_9 : get a9 26 = Value.pointer (some ⟨b5, 0, none⟩) := t26
 clear E8 N8 D8 s1_8 s4_8 s5_8 s6_8 s7_8 s14_8 s15_8 s16_8 B4_8 B5_8 X1_8 hsxl_8 X14_8
 refine tail_none rfl rfl (does_storeD (o := 0) (n := 1) (cs' := [w32 ((s.a : UInt32) ^^^ (p : UInt32)), w32 (s.b), w32 (s.c), w32 (s.d), w32 (s.e), w32 (s.f), w32 (s.g), w32 (s.h)]) (V := w32 ((s.a : UInt32) ^^^ (p : UInt32))) s26_9 s25_9 B5_9 (nB rfl) rfl siz_22 rfl rfl (fun wd10 hX hz B5_10 => ?_))
 have E10 := E9.since hX (fun k e => e ▸ fr_b5)
 have B4_10 := B4_9.ext hX ne_b4_b5
 have X1_10 := SlT.over X1_9 hX nb_x1_b5
 have hsxl_10 := SlT.over hsxl_9 hX (SlT.low hsxl_9 fr_b5)
 have X14_10 := SlT.over X14_9 hX (SlT.low X14_9 fr_b5)
 clear hX hz E9 B4_9 B5_9 X1_9 hsxl_9 X14_9
 refine tail_nil ?_
 refine Rl [] [(27, Pr.ex (i64 ((1 : Nat) : Int)))] 1 N9 D9 ?_ ?_
 refine Ac ?_ (Az _)
 exact Ap fun aq wq _ hO hR hT => does_add (a := ((0 : Nat) : Int)) (b := ((1 : Nat) : Int)) (r := ((1 : Nat) : Int)) (oT hO s16_9 rfl) rfl (by decide) (by decide) (by decide) eR
 intro a11 wd11 N11 D11 hO hR hA hU
 obtain ⟨t27, _⟩ := hA
 have E11 := E10.trans hR
 have s1_11 := oT hO s1_9 rfl
 have s4_11 := oT hO s4_9 rfl
 have s5_11 := oT hO s5_9 rfl
 have s14_11 := oT hO s14_9 rfl
 have s15_11 := oT hO s15_9 rfl
 have s16_11 := oT hO s16_9 rfl
 have B4_11 := B4_10.ext' hR
 have B5_11 := B5_10.ext' hR
 have X1_11 := X1_10.ext' hR
 have hsxl_11 := hsxl_10.ext' hR
 have X14_11 := X14_10.ext' hR
 have s27_11 : get a11 27 = i64 ((1 : Nat) : Int) := t27
 clear E10 N9 D9 s1_9 s4_9 s5_9 s14_9 s15_9 s16_9 s25_9 s26_9 B4_10 B5_10 X1_10 hsxl_10 X14_10
 refine tail_put rfl rfl N11 D11 (by decide) (does_move (V := i64 ((1 : Nat) : Int)) s27_11 (fun a12 N12 D12 hv hO => ?_))
 have s16_12 := hv
 have s1_12 := oT hO s1_11 rfl
 have s4_12 := oT hO s4_11 rfl
 have s5_12 := oT hO s5_11 rfl
 have s14_12 := oT hO s14_11 rfl
 have s15_12 := oT hO s15_11 rfl
 clear hO hv N11 D11 s1_11 s4_11 s5_11 s14_11 s15_11 s27_11 s16_11
 refine tail_nil ?_
 refine round_step ?_
 refine wp_seq ?_
 refine Rl [] [(17, Pr.ex (Value.bool (true)))] 1 N12 D12 ?_ ?_
 refine Ac ?_ (Az _)
 exact Ap fun aq wq _ hO hR hT => does_lss (a := ((1 : Nat) : Int)) (b := ((4 : Nat) : Int)) (oT hO s16_12 rfl) (oT hO s15_12 rfl) eR
 intro a13 wd13 N13 D13 hO hR hA hU
 obtain ⟨t17, _⟩ := hA
 have E13 := E11.trans hR
 have s1_13 := oT hO s1_12 rfl
 have s4_13 := oT hO s4_12 rfl
 have s5_13 := oT hO s5_12 rfl
 have s14_13 := oT hO s14_12 rfl
 have s15_13 := oT hO s15_12 rfl
 have s16_13 := oT hO s16_12 rfl
 have B4_13 := B4_11.ext' hR
 have B5_13 := B5_11.ext' hR
 have X1_13 := X1_11.ext' hR
 have hsxl_13 := hsxl_11.ext' hR
 have X14_13 := X14_11.ext' hR
 have s17_13 : get a13 17 = Value.bool (true) := t17
 clear E11 N12 D12 s1_12 s4_12 s5_12 s14_12 s15_12 s16_12 B4_11 B5_11 X1_11 hsxl_11 X14_11
 refine tail_nil ?_
 refine wp_seq ?_
 refine wp_ifT s17_13 ?_
 refine wp_skip ?_
 refine wp_seq ?_
 refine wp_block ?_
 refine wp_seq ?_
 refine Rl [] [(18, Pr.ex (i64 ((1 : Nat) : Int))), (19, Pr.pt' 0 (w0.heap.size + 1) [w32 (q)]), (20, Pr.ex (w32 (q))), (6, Pr.ex (i64 ((1 : Nat) : Int))), (7, Pr.ex (w32 (q)))] 5 N13 D13 ?_ ?_
 refine Ac ?_ (Ac ?_ (Ac ?_ (Ac ?_ (Ac ?_ (Az _)))))
 exact Am s16_13 rfl fun _ => rfl
 exact Ap fun aq wq _ hO hR hT => does_indexSl (T := W32) (xs := m.take 4) (i := ((1 : Nat) : Int)) (X := q) sli_58 rfl (SlT.at (oT hO s14_13 rfl) (X14_13.ext' hR)) (oT hO s16_13 rfl) (by omega) (by rw [hm4]; rfl) (fun v h => ⟨Ext.refl _, h⟩)
 exact Ap fun aq wq _ hO hR hT => does_loadP1 (V := w32 (q)) (hT 19 rfl rfl) one_22 eR
 exact Ap fun aq wq _ hO hR hT => does_assign (V := i64 ((1 : Nat) : Int)) (hT 18 rfl rfl) eR
 exact Ap fun aq wq _ hO hR hT => does_assign (V := w32 (q)) (hT 20 rfl rfl) eR
 intro a14 wd14 N14 D14 hO hR hA hU
 obtain ⟨_, _, _, t6, t7, _⟩ := hA
 have E14 := E13.trans hR
 have s1_14 := oT hO s1_13 rfl
 have s4_14 := oT hO s4_13 rfl
 have s5_14 := oT hO s5_13 rfl
 have s14_14 := oT hO s14_13 rfl
 have s15_14 := oT hO s15_13 rfl
 have s16_14 := oT hO s16_13 rfl
 have B4_14 := B4_13.ext' hR
 have B5_14 := B5_13.ext' hR
 have X1_14 := X1_13.ext' hR
 have hsxl_14 := hsxl_13.ext' hR
 have X14_14 := X14_13.ext' hR
 have s6_14 : get a14 6 = i64 ((1 : Nat) : Int) := t6
 have s7_14 : get a14 7 = w32 (q) := t7
 clear E13 N13 D13 s1_13 s4_13 s5_13 s14_13 s15_13 s16_13 s17_13 B4_13 B5_13 X1_13 hsxl_13 X14_13
 refine tail_nil ?_
 refine Rl [] [(21, Pr.ex (i64 ((1 : Nat) : Int))), (22, Pr.ex (Value.pointer (some ⟨b5, 1, none⟩))), (23, Pr.ex (w32 (s.b))), (24, Pr.ex (w32 (q))), (25, Pr.ex (w32 ((s.b : UInt32) ^^^ (q : UInt32)))), (26, Pr.ex (Value.pointer (some ⟨b5, 1, none⟩)))] 6 N14 D14 ?_ ?_
 refine Ac ?_ (Ac ?_ (Ac ?_ (Ac ?_ (Ac ?_ (Ac ?_ (Az _))))))
 exact Am s6_14 rfl fun _ => rfl
 exact Ap fun aq wq _ hO hR hT => does_indexArr (k := .i64) (i := 1) (o' := 1) arr_75 (oT hO s5_14 rfl) (hT 21 rfl rfl) (by decide) (by decide) rfl eR
 exact Ap fun aq wq _ hO hR hT => does_loadD1 (o := 1) (V := w32 (s.b)) (hT 22 rfl rfl) (B5_14.ext' hR) rfl one_22 eR
 exact Am s7_14 rfl fun _ => rfl
 exact Ap fun aq wq _ hO hR hT => does_xor32 (a := (s.b : UInt32)) (b := (q : UInt32)) (hT 23 rfl rfl) (hT 24 rfl rfl) eR
 exact Ap fun aq wq _ hO hR hT => does_indexArr (k := .i64) (i := 1) (o' := 1) arr_75 (oT hO s5_14 rfl) (hT 21 rfl rfl) (by decide) (by decide) rfl eR
 intro a15 wd15 N15 D15 hO hR hA hU
 obtain ⟨_, _, _, _, t25, t26, _⟩ := hA
 have E15 := E14.trans hR
 have s1_15 := oT hO s1_14 rfl
 have s4_15 := oT hO s4_14 rfl
 have s5_15 := oT hO s5_14 rfl
 have s14_15 := oT hO s14_14 rfl
 have s15_15 := oT hO s15_14 rfl
 have s16_15 := oT hO s16_14 rfl
 have B4_15 := B4_14.ext' hR
 have B5_15 := B5_14.ext' hR
 have X1_15 := X1_14.ext' hR
 have hsxl_15 := hsxl_14.ext' hR
 have X14_15 := X14_14.ext' hR
 have s25_15 : get a15 25 = w32 ((s.b : UInt32) ^^^ (q : UInt32)) := t25
 have s26_15 : get a15 26 = Value.pointer (some ⟨b5, 1, none⟩) := t26
 clear E14 N14 D14 s1_14 s4_14 s5_14 s6_14 s7_14 s14_14 s15_14 s16_14 B4_14 B5_14 X1_14 hsxl_14 X14_14
 refine tail_none rfl rfl (does_storeD (o := 1) (n := 1) (cs' := [w32 ((s.a : UInt32) ^^^ (p : UInt32)), w32 ((s.b : UInt32) ^^^ (q : UInt32)), w32 (s.c), w32 (s.d), w32 (s.e), w32 (s.f), w32 (s.g), w32 (s.h)]) (V := w32 ((s.b : UInt32) ^^^ (q : UInt32))) s26_15 s25_15 B5_15 (nB rfl) rfl siz_22 rfl rfl (fun wd16 hX hz B5_16 => ?_))
 have E16 := E15.since hX (fun k e => e ▸ fr_b5)
 have B4_16 := B4_15.ext hX ne_b4_b5
 have X1_16 := SlT.over X1_15 hX nb_x1_b5
 have hsxl_16 := SlT.over hsxl_15 hX (SlT.low hsxl_15 fr_b5)
 have X14_16 := SlT.over X14_15 hX (SlT.low X14_15 fr_b5)
 clear hX hz E15 B4_15 B5_15 X1_15 hsxl_15 X14_15
 refine tail_nil ?_
 refine Rl [] [(27, Pr.ex (i64 ((2 : Nat) : Int)))] 1 N15 D15 ?_ ?_
 refine Ac ?_ (Az _)
 exact Ap fun aq wq _ hO hR hT => does_add (a := ((1 : Nat) : Int)) (b := ((1 : Nat) : Int)) (r := ((2 : Nat) : Int)) (oT hO s16_15 rfl) rfl (by decide) (by decide) (by decide) eR
 intro a17 wd17 N17 D17 hO hR hA hU
 obtain ⟨t27, _⟩ := hA
 have E17 := E16.trans hR
 have s1_17 := oT hO s1_15 rfl
 have s4_17 := oT hO s4_15 rfl
 have s5_17 := oT hO s5_15 rfl
 have s14_17 := oT hO s14_15 rfl
 have s15_17 := oT hO s15_15 rfl
 have s16_17 := oT hO s16_15 rfl
 have B4_17 := B4_16.ext' hR
 have B5_17 := B5_16.ext' hR
 have X1_17 := X1_16.ext' hR
 have hsxl_17 := hsxl_16.ext' hR
 have X14_17 := X14_16.ext' hR
 have s27_17 : get a17 27 = i64 ((2 : Nat) : Int) := t27
 clear E16 N15 D15 s1_15 s4_15 s5_15 s14_15 s15_15 s16_15 s25_15 s26_15 B4_16 B5_16 X1_16 hsxl_16 X14_16
 refine tail_put rfl rfl N17 D17 (by decide) (does_move (V := i64 ((2 : Nat) : Int)) s27_17 (fun a18 N18 D18 hv hO => ?_))
 have s16_18 := hv
 have s1_18 := oT hO s1_17 rfl
 have s4_18 := oT hO s4_17 rfl
 have s5_18 := oT hO s5_17 rfl
 have s14_18 := oT hO s14_17 rfl
 have s15_18 := oT hO s15_17 rfl
 clear hO hv N17 D17 s1_17 s4_17 s5_17 s14_17 s15_17 s27_17 s16_17
 refine tail_nil ?_
 refine round_step ?_
 refine wp_seq ?_
 refine Rl [] [(17, Pr.ex (Value.bool (true)))] 1 N18 D18 ?_ ?_
 refine Ac ?_ (Az _)
 exact Ap fun aq wq _ hO hR hT => does_lss (a := ((2 : Nat) : Int)) (b := ((4 : Nat) : Int)) (oT hO s16_18 rfl) (oT hO s15_18 rfl) eR
 intro a19 wd19 N19 D19 hO hR hA hU
 obtain ⟨t17, _⟩ := hA
 have E19 := E17.trans hR
 have s1_19 := oT hO s1_18 rfl
 have s4_19 := oT hO s4_18 rfl
 have s5_19 := oT hO s5_18 rfl
 have s14_19 := oT hO s14_18 rfl
 have s15_19 := oT hO s15_18 rfl
 have s16_19 := oT hO s16_18 rfl
 have B4_19 := B4_17.ext' hR
 have B5_19 := B5_17.ext' hR
 have X1_19 := X1_17.ext' hR
 have hsxl_19 := hsxl_17.ext' hR
 have X14_19 := X14_17.ext' hR
 have s17_19 : get a19 17 = Value.bool (true) := t17
 clear E17 N18 D18 s1_18 s4_18 s5_18 s14_18 s15_18 s16_18 B4_17 B5_17 X1_17 hsxl_17 X14_17
 refine tail_nil ?_
 refine wp_seq ?_
 refine wp_ifT s17_19 ?_
 refine wp_skip ?_
 refine wp_seq ?_
 refine wp_block ?_
 refine wp_seq ?_
 refine Rl [] [(18, Pr.ex (i64 ((2 : Nat) : Int))), (19, Pr.pt' 0 (w0.heap.size + 1) [w32 (r)]), (20, Pr.ex (w32 (r))), (6, Pr.ex (i64 ((2 : Nat) : Int))), (7, Pr.ex (w32 (r)))] 5 N19 D19 ?_ ?_
 refine Ac ?_ (Ac ?_ (Ac ?_ (Ac ?_ (Ac ?_ (Az _)))))
 exact Am s16_19 rfl fun _ => rfl
 exact Ap fun aq wq _ hO hR hT => does_indexSl (T := W32) (xs := m.take 4) (i := ((2 : Nat) : Int)) (X := r) sli_58 rfl (SlT.at (oT hO s14_19 rfl) (X14_19.ext' hR)) (oT hO s16_19 rfl) (by omega) (by rw [hm4]; rfl) (fun v h => ⟨Ext.refl _, h⟩)
 exact Ap fun aq wq _ hO hR hT => does_loadP1 (V := w32 (r)) (hT 19 rfl rfl) one_22 eR
 exact Ap fun aq wq _ hO hR hT => does_assign (V := i64 ((2 : Nat) : Int)) (hT 18 rfl rfl) eR
 exact Ap fun aq wq _ hO hR hT => does_assign (V := w32 (r)) (hT 20 rfl rfl) eR
 intro a20 wd20 N20 D20 hO hR hA hU
 obtain ⟨_, _, _, t6, t7, _⟩ := hA
 have E20 := E19.trans hR
 have s1_20 := oT hO s1_19 rfl
 have s4_20 := oT hO s4_19 rfl
 have s5_20 := oT hO s5_19 rfl
 have s14_20 := oT hO s14_19 rfl
 have s15_20 := oT hO s15_19 rfl
 have s16_20 := oT hO s16_19 rfl
 have B4_20 := B4_19.ext' hR
 have B5_20 := B5_19.ext' hR
 have X1_20 := X1_19.ext' hR
 have hsxl_20 := hsxl_19.ext' hR
 have X14_20 := X14_19.ext' hR
 have s6_20 : get a20 6 = i64 ((2 : Nat) : Int) := t6
 have s7_20 : get a20 7 = w32 (r) := t7
 clear E19 N19 D19 s1_19 s4_19 s5_19 s14_19 s15_19 s16_19 s17_19 B4_19 B5_19 X1_19 hsxl_19 X14_19
 refine tail_nil ?_
 refine Rl [] [(21, Pr.ex (i64 ((2 : Nat) : Int))), (22, Pr.ex (Value.pointer (some ⟨b5, 2, none⟩))), (23, Pr.ex (w32 (s.c))), (24, Pr.ex (w32 (r))), (25, Pr.ex (w32 ((s.c : UInt32) ^^^ (r : UInt32)))), (26, Pr.ex (Value.pointer (some ⟨b5, 2, none⟩)))] 6 N20 D20 ?_ ?_
 refine Ac ?_ (Ac ?_ (Ac ?_ (Ac ?_ (Ac ?_ (Ac ?_ (Az _))))))
 exact Am s6_20 rfl fun _ => rfl
 exact Ap fun aq wq _ hO hR hT => does_indexArr (k := .i64) (i := 2) (o' := 2) arr_75 (oT hO s5_20 rfl) (hT 21 rfl rfl) (by decide) (by decide) rfl eR
 exact Ap fun aq wq _ hO hR hT => does_loadD1 (o := 2) (V := w32 (s.c)) (hT 22 rfl rfl) (B5_20.ext' hR) rfl one_22 eR
 exact Am s7_20 rfl fun _ => rfl
 exact Ap fun aq wq _ hO hR hT => does_xor32 (a := (s.c : UInt32)) (b := (r : UInt32)) (hT 23 rfl rfl) (hT 24 rfl rfl) eR
 exact Ap fun aq wq _ hO hR hT => does_indexArr (k := .i64) (i := 2) (o' := 2) arr_75 (oT hO s5_20 rfl) (hT 21 rfl rfl) (by decide) (by decide) rfl eR
 intro a21 wd21 N21 D21 hO hR hA hU
 obtain ⟨_, _, _, _, t25, t26, _⟩ := hA
 have E21 := E20.trans hR
 have s1_21 := oT hO s1_20 rfl
 have s4_21 := oT hO s4_20 rfl
 have s5_21 := oT hO s5_20 rfl
 have s14_21 := oT hO s14_20 rfl
 have s15_21 := oT hO s15_20 rfl
 have s16_21 := oT hO s16_20 rfl
 have B4_21 := B4_20.ext' hR
 have B5_21 := B5_20.ext' hR
 have X1_21 := X1_20.ext' hR
 have hsxl_21 := hsxl_20.ext' hR
 have X14_21 := X14_20.ext' hR
 have s25_21 : get a21 25 = w32 ((s.c : UInt32) ^^^ (r : UInt32)) := t25
 have s26_21 : get a21 26 = Value.pointer (some ⟨b5, 2, none⟩) := t26
 clear E20 N20 D20 s1_20 s4_20 s5_20 s6_20 s7_20 s14_20 s15_20 s16_20 B4_20 B5_20 X1_20 hsxl_20 X14_20
 refine tail_none rfl rfl (does_storeD (o := 2) (n := 1) (cs' := [w32 ((s.a : UInt32) ^^^ (p : UInt32)), w32 ((s.b : UInt32) ^^^ (q : UInt32)), w32 ((s.c : UInt32) ^^^ (r : UInt32)), w32 (s.d), w32 (s.e), w32 (s.f), w32 (s.g), w32 (s.h)]) (V := w32 ((s.c : UInt32) ^^^ (r : UInt32))) s26_21 s25_21 B5_21 (nB rfl) rfl siz_22 rfl rfl (fun wd22 hX hz B5_22 => ?_))
 have E22 := E21.since hX (fun k e => e ▸ fr_b5)
 have B4_22 := B4_21.ext hX ne_b4_b5
 have X1_22 := SlT.over X1_21 hX nb_x1_b5
 have hsxl_22 := SlT.over hsxl_21 hX (SlT.low hsxl_21 fr_b5)
 have X14_22 := SlT.over X14_21 hX (SlT.low X14_21 fr_b5)
 clear hX hz E21 B4_21 B5_21 X1_21 hsxl_21 X14_21
 refine tail_nil ?_
 refine Rl [] [(27, Pr.ex (i64 ((3 : Nat) : Int)))] 1 N21 D21 ?_ ?_
 refine Ac ?_ (Az _)
 exact Ap fun aq wq _ hO hR hT => does_add (a := ((2 : Nat) : Int)) (b := ((1 : Nat) : Int)) (r := ((3 : Nat) : Int)) (oT hO s16_21 rfl) rfl (by decide) (by decide) (by decide) eR
 intro a23 wd23 N23 D23 hO hR hA hU
 obtain ⟨t27, _⟩ := hA
 have E23 := E22.trans hR
 have s1_23 := oT hO s1_21 rfl
 have s4_23 := oT hO s4_21 rfl
 have s5_23 := oT hO s5_21 rfl
 have s14_23 := oT hO s14_21 rfl
 have s15_23 := oT hO s15_21 rfl
 have s16_23 := oT hO s16_21 rfl
 have B4_23 := B4_22.ext' hR
 have B5_23 := B5_22.ext' hR
 have X1_23 := X1_22.ext' hR
 have hsxl_23 := hsxl_22.ext' hR
 have X14_23 := X14_22.ext' hR
 have s27_23 : get a23 27 = i64 ((3 : Nat) : Int) := t27
 clear E22 N21 D21 s1_21 s4_21 s5_21 s14_21 s15_21 s16_21 s25_21 s26_21 B4_22 B5_22 X1_22 hsxl_22 X14_22
 refine tail_put rfl rfl N23 D23 (by decide) (does_move (V := i64 ((3 : Nat) : Int)) s27_23 (fun a24 N24 D24 hv hO => ?_))
 have s16_24 := hv
 have s1_24 := oT hO s1_23 rfl
 have s4_24 := oT hO s4_23 rfl
 have s5_24 := oT hO s5_23 rfl
 have s14_24 := oT hO s14_23 rfl
 have s15_24 := oT hO s15_23 rfl
 clear hO hv N23 D23 s1_23 s4_23 s5_23 s14_23 s15_23 s27_23 s16_23
 refine tail_nil ?_
 refine round_step ?_
 refine wp_seq ?_
 refine Rl [] [(17, Pr.ex (Value.bool (true)))] 1 N24 D24 ?_ ?_
 refine Ac ?_ (Az _)
 exact Ap fun aq wq _ hO hR hT => does_lss (a := ((3 : Nat) : Int)) (b := ((4 : Nat) : Int)) (oT hO s16_24 rfl) (oT hO s15_24 rfl) eR
 intro a25 wd25 N25 D25 hO hR hA hU
 obtain ⟨t17, _⟩ := hA
 have E25 := E23.trans hR
 have s1_25 := oT hO s1_24 rfl
 have s4_25 := oT hO s4_24 rfl
 have s5_25 := oT hO s5_24 rfl
 have s14_25 := oT hO s14_24 rfl
 have s15_25 := oT hO s15_24 rfl
 have s16_25 := oT hO s16_24 rfl
 have B4_25 := B4_23.ext' hR
 have B5_25 := B5_23.ext' hR
 have X1_25 := X1_23.ext' hR
 have hsxl_25 := hsxl_23.ext' hR
 have X14_25 := X14_23.ext' hR
 have s17_25 : get a25 17 = Value.bool (true) := t17
 clear E23 N24 D24 s1_24 s4_24 s5_24 s14_24 s15_24 s16_24 B4_23 B5_23 X1_23 hsxl_23 X14_23
 refine tail_nil ?_
 refine wp_seq ?_
 refine wp_ifT s17_25 ?_
 refine wp_skip ?_
 refine wp_seq ?_
 refine wp_block ?_
 refine wp_seq ?_
 refine Rl [] [(18, Pr.ex (i64 ((3 : Nat) : Int))), (19, Pr.pt' 0 (w0.heap.size + 1) [w32 (t)]), (20, Pr.ex (w32 (t))), (6, Pr.ex (i64 ((3 : Nat) : Int))), (7, Pr.ex (w32 (t)))] 5 N25 D25 ?_ ?_
 refine Ac ?_ (Ac ?_ (Ac ?_ (Ac ?_ (Ac ?_ (Az _)))))
 exact Am s16_25 rfl fun _ => rfl
 exact Ap fun aq wq _ hO hR hT => does_indexSl (T := W32) (xs := m.take 4) (i := ((3 : Nat) : Int)) (X := t) sli_58 rfl (SlT.at (oT hO s14_25 rfl) (X14_25.ext' hR)) (oT hO s16_25 rfl) (by omega) (by rw [hm4]; rfl) (fun v h => ⟨Ext.refl _, h⟩)
 exact Ap fun aq wq _ hO hR hT => does_loadP1 (V := w32 (t)) (hT 19 rfl rfl) one_22 eR
 exact Ap fun aq wq _ hO hR hT => does_assign (V := i64 ((3 : Nat) : Int)) (hT 18 rfl rfl) eR
 exact Ap fun aq wq _ hO hR hT => does_assign (V := w32 (t)) (hT 20 rfl rfl) eR
 intro a26 wd26 N26 D26 hO hR hA hU
 obtain ⟨_, _, _, t6, t7, _⟩ := hA
 have E26 := E25.trans hR
 have s1_26 := oT hO s1_25 rfl
 have s4_26 := oT hO s4_25 rfl
 have s5_26 := oT hO s5_25 rfl
 have s14_26 := oT hO s14_25 rfl
 have s15_26 := oT hO s15_25 rfl
 have s16_26 := oT hO s16_25 rfl
 have B4_26 := B4_25.ext' hR
 have B5_26 := B5_25.ext' hR
 have X1_26 := X1_25.ext' hR
 have hsxl_26 := hsxl_25.ext' hR
 have X14_26 := X14_25.ext' hR
 have s6_26 : get a26 6 = i64 ((3 : Nat) : Int) := t6
 have s7_26 : get a26 7 = w32 (t) := t7
 clear E25 N25 D25 s1_25 s4_25 s5_25 s14_25 s15_25 s16_25 s17_25 B4_25 B5_25 X1_25 hsxl_25 X14_25
 refine tail_nil ?_
 refine Rl [] [(21, Pr.ex (i64 ((3 : Nat) : Int))), (22, Pr.ex (Value.pointer (some ⟨b5, 3, none⟩))), (23, Pr.ex (w32 (s.d))), (24, Pr.ex (w32 (t))), (25, Pr.ex (w32 ((s.d : UInt32) ^^^ (t : UInt32)))), (26, Pr.ex (Value.pointer (some ⟨b5, 3, none⟩)))] 6 N26 D26 ?_ ?_
 refine Ac ?_ (Ac ?_ (Ac ?_ (Ac ?_ (Ac ?_ (Ac ?_ (Az _))))))
 exact Am s6_26 rfl fun _ => rfl
 exact Ap fun aq wq _ hO hR hT => does_indexArr (k := .i64) (i := 3) (o' := 3) arr_75 (oT hO s5_26 rfl) (hT 21 rfl rfl) (by decide) (by decide) rfl eR
 exact Ap fun aq wq _ hO hR hT => does_loadD1 (o := 3) (V := w32 (s.d)) (hT 22 rfl rfl) (B5_26.ext' hR) rfl one_22 eR
 exact Am s7_26 rfl fun _ => rfl
 exact Ap fun aq wq _ hO hR hT => does_xor32 (a := (s.d : UInt32)) (b := (t : UInt32)) (hT 23 rfl rfl) (hT 24 rfl rfl) eR
 exact Ap fun aq wq _ hO hR hT => does_indexArr (k := .i64) (i := 3) (o' := 3) arr_75 (oT hO s5_26 rfl) (hT 21 rfl rfl) (by decide) (by decide) rfl eR
 intro a27 wd27 N27 D27 hO hR hA hU
 obtain ⟨_, _, _, _, t25, t26, _⟩ := hA
 have E27 := E26.trans hR
 have s1_27 := oT hO s1_26 rfl
 have s4_27 := oT hO s4_26 rfl
 have s5_27 := oT hO s5_26 rfl
 have s14_27 := oT hO s14_26 rfl
 have s15_27 := oT hO s15_26 rfl
 have s16_27 := oT hO s16_26 rfl
 have B4_27 := B4_26.ext' hR
 have B5_27 := B5_26.ext' hR
 have X1_27 := X1_26.ext' hR
 have hsxl_27 := hsxl_26.ext' hR
 have X14_27 := X14_26.ext' hR
 have s25_27 : get a27 25 = w32 ((s.d : UInt32) ^^^ (t : UInt32)) := t25
 have s26_27 : get a27 26 = Value.pointer (some ⟨b5, 3, none⟩) := t26
 clear E26 N26 D26 s1_26 s4_26 s5_26 s6_26 s7_26 s14_26 s15_26 s16_26 B4_26 B5_26 X1_26 hsxl_26 X14_26
 refine tail_none rfl rfl (does_storeD (o := 3) (n := 1) (cs' := [w32 ((s.a : UInt32) ^^^ (p : UInt32)), w32 ((s.b : UInt32) ^^^ (q : UInt32)), w32 ((s.c : UInt32) ^^^ (r : UInt32)), w32 ((s.d : UInt32) ^^^ (t : UInt32)), w32 (s.e), w32 (s.f), w32 (s.g), w32 (s.h)]) (V := w32 ((s.d : UInt32) ^^^ (t : UInt32))) s26_27 s25_27 B5_27 (nB rfl) rfl siz_22 rfl rfl (fun wd28 hX hz B5_28 => ?_))
 have E28 := E27.since hX (fun k e => e ▸ fr_b5)
 have B4_28 := B4_27.ext hX ne_b4_b5
 have X1_28 := SlT.over X1_27 hX nb_x1_b5
 have hsxl_28 := SlT.over hsxl_27 hX (SlT.low hsxl_27 fr_b5)
 have X14_28 := SlT.over X14_27 hX (SlT.low X14_27 fr_b5)
 clear hX hz E27 B4_27 B5_27 X1_27 hsxl_27 X14_27
 refine tail_nil ?_
 refine Rl [] [(27, Pr.ex (i64 ((4 : Nat) : Int)))] 1 N27 D27 ?_ ?_
 refine Ac ?_ (Az _)
 exact Ap fun aq wq _ hO hR hT => does_add (a := ((3 : Nat) : Int)) (b := ((1 : Nat) : Int)) (r := ((4 : Nat) : Int)) (oT hO s16_27 rfl) rfl (by decide) (by decide) (by decide) eR
 intro a29 wd29 N29 D29 hO hR hA hU
 obtain ⟨t27, _⟩ := hA
 have E29 := E28.trans hR
 have s1_29 := oT hO s1_27 rfl
 have s4_29 := oT hO s4_27 rfl
 have s5_29 := oT hO s5_27 rfl
 have s14_29 := oT hO s14_27 rfl
 have s15_29 := oT hO s15_27 rfl
 have s16_29 := oT hO s16_27 rfl
 have B4_29 := B4_28.ext' hR
 have B5_29 := B5_28.ext' hR
 have X1_29 := X1_28.ext' hR
 have hsxl_29 := hsxl_28.ext' hR
 have X14_29 := X14_28.ext' hR
 have s27_29 : get a29 27 = i64 ((4 : Nat) : Int) := t27
 clear E28 N27 D27 s1_27 s4_27 s5_27 s14_27 s15_27 s16_27 s25_27 s26_27 B4_28 B5_28 X1_28 hsxl_28 X14_28
 refine tail_put rfl rfl N29 D29 (by decide) (does_move (V := i64 ((4 : Nat) : Int)) s27_29 (fun a30 N30 D30 hv hO => ?_))
 have s16_30 := hv
 have s1_30 := oT hO s1_29 rfl
 have s4_30 := oT hO s4_29 rfl
 have s5_30 := oT hO s5_29 rfl
 have s14_30 := oT hO s14_29 rfl
 have s15_30 := oT hO s15_29 rfl
 clear hO hv N29 D29 s1_29 s4_29 s5_29 s14_29 s15_29 s27_29 s16_29
 refine tail_nil ?_
 refine round_step ?_
 refine wp_seq ?_
 refine Rl [] [(17, Pr.ex (Value.bool (false)))] 1 N30 D30 ?_ ?_
 refine Ac ?_ (Az _)
 exact Ap fun aq wq _ hO hR hT => does_lss (a := ((4 : Nat) : Int)) (b := ((4 : Nat) : Int)) (oT hO s16_30 rfl) (oT hO s15_30 rfl) eR
 intro a31 wd31 N31 D31 hO hR hA hU
 obtain ⟨t17, _⟩ := hA
 have E31 := E29.trans hR
 have s1_31 := oT hO s1_30 rfl
 have s4_31 := oT hO s4_30 rfl
 have s5_31 := oT hO s5_30 rfl
 have s14_31 := oT hO s14_30 rfl
 have s15_31 := oT hO s15_30 rfl
 have s16_31 := oT hO s16_30 rfl
 have B4_31 := B4_29.ext' hR
 have B5_31 := B5_29.ext' hR
 have X1_31 := X1_29.ext' hR
 have hsxl_31 := hsxl_29.ext' hR
 have X14_31 := X14_29.ext' hR
 have s17_31 : get a31 17 = Value.bool (false) := t17
 clear E29 N30 D30 s1_30 s4_30 s5_30 s14_30 s15_30 s16_30 B4_29 B5_29 X1_29 hsxl_29 X14_29
 refine tail_nil ?_
 refine wp_seq ?_
 refine wp_ifF s17_31 ?_
 refine wp_exit ?_
 refine region_late [] [(28, Pr.ex (Value.agg #[w32 ((s.a : UInt32) ^^^ (p : UInt32)), w32 ((s.b : UInt32) ^^^ (q : UInt32)), w32 ((s.c : UInt32) ^^^ (r : UInt32)), w32 ((s.d : UInt32) ^^^ (t : UInt32)), w32 (s.e), w32 (s.f), w32 (s.g), w32 (s.h)])), (29, Pr.ex (Value.agg #[w32 (((⟨(s.a : UInt32) ^^^ (p : UInt32), (s.b : UInt32) ^^^ (q : UInt32), (s.c : UInt32) ^^^ (r : UInt32), (s.d : UInt32) ^^^ (t : UInt32), s.e, s.f, s.g, s.h⟩ : St)).mix.a), w32 (((⟨(s.a : UInt32) ^^^ (p : UInt32), (s.b : UInt32) ^^^ (q : UInt32), (s.c : UInt32) ^^^ (r : UInt32), (s.d : UInt32) ^^^ (t : UInt32), s.e, s.f, s.g, s.h⟩ : St)).mix.b), w32 (((⟨(s.a : UInt32) ^^^ (p : UInt32), (s.b : UInt32) ^^^ (q : UInt32), (s.c : UInt32) ^^^ (r : UInt32), (s.d : UInt32) ^^^ (t : UInt32), s.e, s.f, s.g, s.h⟩ : St)).mix.c), w32 (((⟨(s.a : UInt32) ^^^ (p : UInt32), (s.b : UInt32) ^^^ (q : UInt32), (s.c : UInt32) ^^^ (r : UInt32), (s.d : UInt32) ^^^ (t : UInt32), s.e, s.f, s.g, s.h⟩ : St)).mix.d), w32 (((⟨(s.a : UInt32) ^^^ (p : UInt32), (s.b : UInt32) ^^^ (q : UInt32), (s.c : UInt32) ^^^ (r : UInt32), (s.d : UInt32) ^^^ (t : UInt32), s.e, s.f, s.g, s.h⟩ : St)).mix.e), w32 (((⟨(s.a : UInt32) ^^^ (p : UInt32), (s.b : UInt32) ^^^ (q : UInt32), (s.c : UInt32) ^^^ (r : UInt32), (s.d : UInt32) ^^^ (t : UInt32), s.e, s.f, s.g, s.h⟩ : St)).mix.f), w32 (((⟨(s.a : UInt32) ^^^ (p : UInt32), (s.b : UInt32) ^^^ (q : UInt32), (s.c : UInt32) ^^^ (r : UInt32), (s.d : UInt32) ^^^ (t : UInt32), s.e, s.f, s.g, s.h⟩ : St)).mix.g), w32 (((⟨(s.a : UInt32) ^^^ (p : UInt32), (s.b : UInt32) ^^^ (q : UInt32), (s.c : UInt32) ^^^ (r : UInt32), (s.d : UInt32) ^^^ (t : UInt32), s.e, s.f, s.g, s.h⟩ : St)).mix.h)])), (30, Pr.ex (xl)), (31, Pr.sl' W32 0 (w0.heap.size + 1) (m.drop 4))] 4 [2, 3] (fun k => k = b5) mixed N31 D31 (by kernel_rfl) (by kernel_rfl) (by kernel_rfl) (by kernel_rfl) (fun d v c a w h => by cases d <;> exact h) ?_ ?_ ?_
 refine Ac ?_ (Ac ?_ (Ac ?_ (Ac ?_ (Az _))))
 exact Ad fun aq wq _ hO hR hT => does_loadD (o := 0) (n := 8) (mid := [w32 ((s.a : UInt32) ^^^ (p : UInt32)), w32 ((s.b : UInt32) ^^^ (q : UInt32)), w32 ((s.c : UInt32) ^^^ (r : UInt32)), w32 ((s.d : UInt32) ^^^ (t : UInt32)), w32 (s.e), w32 (s.f), w32 (s.g), w32 (s.h)]) (oT hO s5_31 rfl) (B5_31.ext' hR) rfl rfl (nB rfl) row_75 rfl eR
 exact Ad fun aq wq _ hO hR hT => does_ret (vs := #[Value.agg #[w32 ((s.a : UInt32) ^^^ (p : UInt32)), w32 ((s.b : UInt32) ^^^ (q : UInt32)), w32 ((s.c : UInt32) ^^^ (r : UInt32)), w32 ((s.d : UInt32) ^^^ (t : UInt32)), w32 (s.e), w32 (s.f), w32 (s.g), w32 (s.h)]]) call_55 (args1 (hT 28 rfl rfl)) rfl ((mix (⟨(s.a : UInt32) ^^^ (p : UInt32), (s.b : UInt32) ^^^ (q : UInt32), (s.c : UInt32) ^^^ (r : UInt32), (s.d : UInt32) ^^^ (t : UInt32), s.e, s.f, s.g, s.h⟩ : St) wq (hL.ext (E31.trans hR))).mono fun v w2 h => ⟨h.2, h.1⟩)
 exact Am s1_31 rfl fun _ => rfl
 exact Ad fun aq wq _ hO hR hT => does_sliceLo (T := W32) (xs := m) (k := ((4 : Nat) : Int)) sli_58 rfl (SlT.at (hT 30 rfl rfl) (hsxl_31.ext' hR)) rfl (by omega) (by omega) (fun v h => ⟨Ext.refl _, h⟩)
 refine LateAsks.cons rfl rfl rfl ?_ (LateAsks.cons rfl rfl rfl ?_ LateAsks.nil)
 intro aq wq hO hR hT
 have hR0 := hR
 replace hR := (Ext.drew _).trans hR
 exact ⟨_, yl_move (V := xl) (oT hO s1_31 rfl), rfl⟩
 intro aq wq hO hR hT
 have hR0 := hR
 replace hR := (Ext.drew _).trans hR
 exact yl_sliceLo (T := W32) (xs := m) (k := ((4 : Nat) : Int)) sli_58 rfl (SlT.at (hT 30 rfl rfl) (hsxl_31.ext' hR)) rfl (by omega) (by omega)
 intro wl hwl hwh a32 wd32 N32 D32 hO hR hA hU
 have hS_32 : ExtE (fun k => k = b5) wl wd32 := hR.toE
 replace hR := hwl.trans hR
 obtain ⟨_, t29, _, t31, _⟩ := hA
 have E32 := E31.trans hR
 have s1_32 := oT hO s1_31 rfl
 have s4_32 := oT hO s4_31 rfl
 have s5_32 := oT hO s5_31 rfl
 have B4_32 := B4_31.ext' hR
 have B5_32 := B5_31.ext' hR
 have X1_32 := X1_31.ext' hR
 have hsxl_32 := hsxl_31.ext' hR
 have X14_32 := X14_31.ext' hR
 have s29_32 : get a32 29 = Value.agg #[w32 (((⟨(s.a : UInt32) ^^^ (p : UInt32), (s.b : UInt32) ^^^ (q : UInt32), (s.c : UInt32) ^^^ (r : UInt32), (s.d : UInt32) ^^^ (t : UInt32), s.e, s.f, s.g, s.h⟩ : St)).mix.a), w32 (((⟨(s.a : UInt32) ^^^ (p : UInt32), (s.b : UInt32) ^^^ (q : UInt32), (s.c : UInt32) ^^^ (r : UInt32), (s.d : UInt32) ^^^ (t : UInt32), s.e, s.f, s.g, s.h⟩ : St)).mix.b), w32 (((⟨(s.a : UInt32) ^^^ (p : UInt32), (s.b : UInt32) ^^^ (q : UInt32), (s.c : UInt32) ^^^ (r : UInt32), (s.d : UInt32) ^^^ (t : UInt32), s.e, s.f, s.g, s.h⟩ : St)).mix.c), w32 (((⟨(s.a : UInt32) ^^^ (p : UInt32), (s.b : UInt32) ^^^ (q : UInt32), (s.c : UInt32) ^^^ (r : UInt32), (s.d : UInt32) ^^^ (t : UInt32), s.e, s.f, s.g, s.h⟩ : St)).mix.d), w32 (((⟨(s.a : UInt32) ^^^ (p : UInt32), (s.b : UInt32) ^^^ (q : UInt32), (s.c : UInt32) ^^^ (r : UInt32), (s.d : UInt32) ^^^ (t : UInt32), s.e, s.f, s.g, s.h⟩ : St)).mix.e), w32 (((⟨(s.a : UInt32) ^^^ (p : UInt32), (s.b : UInt32) ^^^ (q : UInt32), (s.c : UInt32) ^^^ (r : UInt32), (s.d : UInt32) ^^^ (t : UInt32), s.e, s.f, s.g, s.h⟩ : St)).mix.f), w32 (((⟨(s.a : UInt32) ^^^ (p : UInt32), (s.b : UInt32) ^^^ (q : UInt32), (s.c : UInt32) ^^^ (r : UInt32), (s.d : UInt32) ^^^ (t : UInt32), s.e, s.f, s.g, s.h⟩ : St)).mix.g), w32 (((⟨(s.a : UInt32) ^^^ (p : UInt32), (s.b : UInt32) ^^^ (q : UInt32), (s.c : UInt32) ^^^ (r : UInt32), (s.d : UInt32) ^^^ (t : UInt32), s.e, s.f, s.g, s.h⟩ : St)).mix.h)] := t29
 obtain ⟨x31, s31_32⟩ : ∃ x, get a32 31 = x := ⟨_, rfl⟩
 replace t31 : SlT W32 0 (w0.heap.size + 1) (m.drop 4) x31 wd32 := by rw [← s31_32]; exact t31
 have X31_32 := t31
 clear E31 N31 D31 s1_31 s4_31 s5_31 s14_31 s15_31 s16_31 s17_31 B4_31 B5_31 X1_31 hsxl_31 X14_31
 refine tailS_none rfl rfl (does_storeD (o := 0) (n := 8) (cs' := [w32 (((⟨(s.a : UInt32) ^^^ (p : UInt32), (s.b : UInt32) ^^^ (q : UInt32), (s.c : UInt32) ^^^ (r : UInt32), (s.d : UInt32) ^^^ (t : UInt32), s.e, s.f, s.g, s.h⟩ : St)).mix.a), w32 (((⟨(s.a : UInt32) ^^^ (p : UInt32), (s.b : UInt32) ^^^ (q : UInt32), (s.c : UInt32) ^^^ (r : UInt32), (s.d : UInt32) ^^^ (t : UInt32), s.e, s.f, s.g, s.h⟩ : St)).mix.b), w32 (((⟨(s.a : UInt32) ^^^ (p : UInt32), (s.b : UInt32) ^^^ (q : UInt32), (s.c : UInt32) ^^^ (r : UInt32), (s.d : UInt32) ^^^ (t : UInt32), s.e, s.f, s.g, s.h⟩ : St)).mix.c), w32 (((⟨(s.a : UInt32) ^^^ (p : UInt32), (s.b : UInt32) ^^^ (q : UInt32), (s.c : UInt32) ^^^ (r : UInt32), (s.d : UInt32) ^^^ (t : UInt32), s.e, s.f, s.g, s.h⟩ : St)).mix.d), w32 (((⟨(s.a : UInt32) ^^^ (p : UInt32), (s.b : UInt32) ^^^ (q : UInt32), (s.c : UInt32) ^^^ (r : UInt32), (s.d : UInt32) ^^^ (t : UInt32), s.e, s.f, s.g, s.h⟩ : St)).mix.e), w32 (((⟨(s.a : UInt32) ^^^ (p : UInt32), (s.b : UInt32) ^^^ (q : UInt32), (s.c : UInt32) ^^^ (r : UInt32), (s.d : UInt32) ^^^ (t : UInt32), s.e, s.f, s.g, s.h⟩ : St)).mix.f), w32 (((⟨(s.a : UInt32) ^^^ (p : UInt32), (s.b : UInt32) ^^^ (q : UInt32), (s.c : UInt32) ^^^ (r : UInt32), (s.d : UInt32) ^^^ (t : UInt32), s.e, s.f, s.g, s.h⟩ : St)).mix.g), w32 (((⟨(s.a : UInt32) ^^^ (p : UInt32), (s.b : UInt32) ^^^ (q : UInt32), (s.c : UInt32) ^^^ (r : UInt32), (s.d : UInt32) ^^^ (t : UInt32), s.e, s.f, s.g, s.h⟩ : St)).mix.h)]) (V := Value.agg #[w32 (((⟨(s.a : UInt32) ^^^ (p : UInt32), (s.b : UInt32) ^^^ (q : UInt32), (s.c : UInt32) ^^^ (r : UInt32), (s.d : UInt32) ^^^ (t : UInt32), s.e, s.f, s.g, s.h⟩ : St)).mix.a), w32 (((⟨(s.a : UInt32) ^^^ (p : UInt32), (s.b : UInt32) ^^^ (q : UInt32), (s.c : UInt32) ^^^ (r : UInt32), (s.d : UInt32) ^^^ (t : UInt32), s.e, s.f, s.g, s.h⟩ : St)).mix.b), w32 (((⟨(s.a : UInt32) ^^^ (p : UInt32), (s.b : UInt32) ^^^ (q : UInt32), (s.c : UInt32) ^^^ (r : UInt32), (s.d : UInt32) ^^^ (t : UInt32), s.e, s.f, s.g, s.h⟩ : St)).mix.c), w32 (((⟨(s.a : UInt32) ^^^ (p : UInt32), (s.b : UInt32) ^^^ (q : UInt32), (s.c : UInt32) ^^^ (r : UInt32), (s.d : UInt32) ^^^ (t : UInt32), s.e, s.f, s.g, s.h⟩ : St)).mix.d), w32 (((⟨(s.a : UInt32) ^^^ (p : UInt32), (s.b : UInt32) ^^^ (q : UInt32), (s.c : UInt32) ^^^ (r : UInt32), (s.d : UInt32) ^^^ (t : UInt32), s.e, s.f, s.g, s.h⟩ : St)).mix.e), w32 (((⟨(s.a : UInt32) ^^^ (p : UInt32), (s.b : UInt32) ^^^ (q : UInt32), (s.c : UInt32) ^^^ (r : UInt32), (s.d : UInt32) ^^^ (t : UInt32), s.e, s.f, s.g, s.h⟩ : St)).mix.f), w32 (((⟨(s.a : UInt32) ^^^ (p : UInt32), (s.b : UInt32) ^^^ (q : UInt32), (s.c : UInt32) ^^^ (r : UInt32), (s.d : UInt32) ^^^ (t : UInt32), s.e, s.f, s.g, s.h⟩ : St)).mix.g), w32 (((⟨(s.a : UInt32) ^^^ (p : UInt32), (s.b : UInt32) ^^^ (q : UInt32), (s.c : UInt32) ^^^ (r : UInt32), (s.d : UInt32) ^^^ (t : UInt32), s.e, s.f, s.g, s.h⟩ : St)).mix.h)]) s5_32 s29_32 B5_32 (nB rfl) rfl siz_75 rfl rfl (fun wd33 hX hz B5_33 => ⟨hS_32.trans (hX.mono fun k _ e => e), ?_⟩))
 have hS_33 := hS_32.trans (hX.mono (E' := (fun k => k = b5)) fun k _ e => e)
 have E33 := E32.since hX (fun k e => e ▸ fr_b5)
 have B4_33 := B4_32.ext hX ne_b4_b5
 have X1_33 := SlT.over X1_32 hX nb_x1_b5
 have hsxl_33 := SlT.over hsxl_32 hX (SlT.low hsxl_32 fr_b5)
 have X14_33 := SlT.over X14_32 hX (SlT.low X14_32 fr_b5)
 have X31_33 := SlT.over X31_32 hX (SlT.low X31_32 fr_b5)
 clear hX hz E32 B4_32 B5_32 X1_32 hsxl_32 X14_32 X31_32
 refine tailS_put rfl rfl N32 D32 (by decide) (does_assign (V := x31) s31_32 (⟨hS_33, fun a34 N34 D34 hv hO => ?_⟩))
 have s1_34 := hv
 have s4_34 := oT hO s4_32 rfl
 have s5_34 := oT hO s5_32 rfl
 clear hO hv N32 D32 s4_32 s5_32 s29_32 s31_32 s1_32
 refine tailS_nil ?_
 exact ⟨_, by rw [hm4]; simp only [List.length_cons]; omega, m', (s.take ⟨p, q, r, t⟩), x31, rfl, N34, D34, s1_34, s4_34, s5_34, E33, B4_33, B5_33, X1_33, (by have h := X31_33; rw [hm4] at h; exact h), by rw [← hm, hm4]; rfl⟩
 have hc0 := of_decide_eq_false hc0
 refine wp_exit ?_
 refine wp_seq ?_
 refine Rl [] [(32, Pr.ex (Value.slice (some ⟨b5, 0, none⟩) 4 8)), (33, Pr.ex (Value.pointer (some ⟨b5, 0, none⟩))), (34, Pr.ex (Dg.val ((⟨s.a, s.b, s.c, s.d⟩ : Dg))))] 3 N5 D5 ?_ ?_
 refine Ac ?_ (Ac ?_ (Ac ?_ (Az _)))
 exact Ap fun aq wq _ hO hR hT => does_arrHi (k := .i64) (i := 4) arr_75 (oT hO s5_5 rfl) rfl (by decide) (by decide) eR
 exact Ap fun aq wq _ hO hR hT => does_arrPtr arr_24 (hT 32 rfl rfl) (by decide) eR
 exact Ap fun aq wq _ hO hR hT => does_loadD (o := 0) (n := 4) (mid := [w32 ((⟨s.a, s.b, s.c, s.d⟩ : Dg)).a, w32 ((⟨s.a, s.b, s.c, s.d⟩ : Dg)).b, w32 ((⟨s.a, s.b, s.c, s.d⟩ : Dg)).c, w32 ((⟨s.a, s.b, s.c, s.d⟩ : Dg)).d]) (hT 33 rfl rfl) (B5_5.ext' hR) rfl rfl (nB rfl) row_24 rfl eR
 intro a35 wd35 N35 D35 hO hR hA hU
 obtain ⟨_, _, t34, _⟩ := hA
 have E35 := E5.trans hR
 have s4_35 := oT hO s4_5 rfl
 have B4_35 := B4_5.ext' hR
 have B5_35 := B5_5.ext' hR
 have X1_35 := X1_5.ext' hR
 have hsxl_35 := hsxl_5.ext' hR
 have s34_35 : get a35 34 = Dg.val ((⟨s.a, s.b, s.c, s.d⟩ : Dg)) := t34
 clear E5 N5 D5 s1_5 s4_5 s5_5 s12_5 B4_5 B5_5 X1_5 hsxl_5
 refine tail_none rfl rfl (does_storeD (o := 0) (n := 4) (cs' := [w32 ((⟨s.a, s.b, s.c, s.d⟩ : Dg)).a, w32 ((⟨s.a, s.b, s.c, s.d⟩ : Dg)).b, w32 ((⟨s.a, s.b, s.c, s.d⟩ : Dg)).c, w32 ((⟨s.a, s.b, s.c, s.d⟩ : Dg)).d]) (V := Dg.val ((⟨s.a, s.b, s.c, s.d⟩ : Dg))) s4_35 s34_35 B4_35 (nB rfl) rfl siz_24 rfl rfl (fun wd36 hX hz B4_36 => ?_))
 have E36 := E35.since hX (fun k e => e ▸ fr_b4)
 have B5_36 := B5_35.ext hX ne_b4_b5.symm
 have X1_36 := SlT.over X1_35 hX nb_x1_b4
 have hsxl_36 := SlT.over hsxl_35 hX (SlT.low hsxl_35 fr_b4)
 clear hX hz E35 B4_35 B5_35 X1_35 hsxl_35
 refine tail_nil ?_
 refine wp_ret ?_
 refine res_one (V := Dg.val ((⟨s.a, s.b, s.c, s.d⟩ : Dg))) rfl D35 (ResIs.cell s4_35 B4_36 row_24 rfl rfl) ?_
 rw [takes_short (by omega)] at hm
 exact ⟨by show Dg.val _ = Dg.val _; rw [← hm]; rfl, E36⟩

theorem takeR (s : St) (d : Dg) (w0 : World) :
    Gives Tryd.prog 37 #[Value.agg #[w32 (s.a), w32 (s.b), w32 (s.c), w32 (s.d), w32 (s.e), w32 (s.f), w32 (s.g), w32 (s.h)], Dg.val (d)] w0 (Pr.ex (St.val (s.take d))) := by
 refine enter (N := 21) Tryd.func37 rfl rfl ?_
 intro a0 N0 D0 hA
 have s0_0 : get a0 0 = Value.agg #[w32 (s.a), w32 (s.b), w32 (s.c), w32 (s.d), w32 (s.e), w32 (s.f), w32 (s.g), w32 (s.h)] := hA 0 _ rfl
 have s1_0 : get a0 1 = Dg.val (d) := hA 1 _ rfl
 clear hA
 have E0 : Ext w0 w0 := Ext.refl w0
 refine wp_seq ?_
 refine Rl [2, 3, 4] [(2, Pr.box' w0.heap.size 75 [w32 (s.a), w32 (s.b), w32 (s.c), w32 (s.d), w32 (s.e), w32 (s.f), w32 (s.g), w32 (s.h)]), (3, Pr.box' w0.heap.size 24 [w32 (d).a, w32 (d).b, w32 (d).c, w32 (d).d]), (4, Pr.box' w0.heap.size 75 [w32 (0), w32 (0), w32 (0), w32 (0), w32 (0), w32 (0), w32 (0), w32 (0)])] 3 N0 D0 ?_ ?_
 refine Ac ?_ (Ac ?_ (Ac ?_ (Az _)))
 refine Ask.fresh rfl rfl ?_
 intro aq wq hNq hO hR hT
 exact does_box (V := Value.agg #[w32 (s.a), w32 (s.b), w32 (s.c), w32 (s.d), w32 (s.e), w32 (s.f), w32 (s.g), w32 (s.h)]) (oT hO s0_0 rfl) (fun b w2 he hlo hb => ⟨he, ⟨b, rfl, Nat.le_trans hR.size' hlo, hb⟩, ⟨b, rfl, hlo, hb.lt⟩⟩)
 refine Ask.fresh rfl rfl ?_
 intro aq wq hNq hO hR hT
 exact does_box (V := Dg.val (d)) (oT hO s1_0 rfl) (fun b w2 he hlo hb => ⟨he, ⟨b, rfl, Nat.le_trans hR.size' hlo, hb⟩, ⟨b, rfl, hlo, hb.lt⟩⟩)
 refine Ask.fresh rfl rfl ?_
 intro aq wq hNq hO hR hT
 exact does_alloc zero_75 (fun b w2 he hlo hb => ⟨he, ⟨b, rfl, Nat.le_trans hR.size' hlo, hb⟩, ⟨b, rfl, hlo, hb.lt⟩⟩)
 intro a1 wd1 N1 D1 hO hR hA hU
 obtain ⟨t2, t3, t4, _⟩ := hA
 have E1 := E0.trans hR
 obtain ⟨b2, s2_1, lo_b2, B2_1⟩ := t2
 have fr_b2 : w0.heap.size ≤ b2 := Nat.le_trans E0.size' lo_b2
 obtain ⟨b3, s3_1, lo_b3, B3_1⟩ := t3
 have fr_b3 : w0.heap.size ≤ b3 := Nat.le_trans E0.size' lo_b3
 obtain ⟨b4, s4_1, lo_b4, B4_1⟩ := t4
 have fr_b4 : w0.heap.size ≤ b4 := Nat.le_trans E0.size' lo_b4
 obtain ⟨u0, ⟨u1, ⟨u2, _⟩⟩⟩ := hU
 have ne_b2_b3 : b2 ≠ b3 := fun e => u0 3 (by decide) (by rw [s2_1, s3_1, e])
 have ne_b2_b4 : b2 ≠ b4 := fun e => u0 4 (by decide) (by rw [s2_1, s4_1, e])
 have ne_b3_b4 : b3 ≠ b4 := fun e => u1 4 (by decide) (by rw [s3_1, s4_1, e])
 clear E0 N0 D0 s0_0 s1_0
 refine tail_nil ?_
 refine wp_seq ?_
 refine wp_seq ?_
 refine Rl [] [(5, Pr.ex (i64 ((0 : Nat) : Int)))] 1 N1 D1 ?_ ?_
 refine Ac ?_ (Az _)
 exact Ap fun aq wq _ hO hR hT => does_assign (V := i64 ((0 : Nat) : Int)) rfl eR
 intro a2 wd2 N2 D2 hO hR hA hU
 obtain ⟨t5, _⟩ := hA
 have E2 := E1.trans hR
 have s2_2 := oT hO s2_1 rfl
 have s3_2 := oT hO s3_1 rfl
 have s4_2 := oT hO s4_1 rfl
 have B2_2 := B2_1.ext' hR
 have B3_2 := B3_1.ext' hR
 have B4_2 := B4_1.ext' hR
 have s5_2 : get a2 5 = i64 ((0 : Nat) : Int) := t5
 clear E1 N1 D1 s2_1 s3_1 s4_1 B2_1 B3_1 B4_1
 refine tail_nil ?_
 refine wp_block ?_
 refine loop_rounds 5 ?_
 refine round_step ?_
 refine wp_seq ?_
 refine wp_seq ?_
 refine Rl [] [(6, Pr.ex (i64 ((0 : Nat) : Int))), (7, Pr.ex (Value.bool (true)))] 2 N2 D2 ?_ ?_
 refine Ac ?_ (Ac ?_ (Az _))
 exact Am s5_2 rfl fun _ => rfl
 exact Ap fun aq wq _ hO hR hT => does_lss (a := ((0 : Nat) : Int)) (b := ((4 : Nat) : Int)) (hT 6 rfl rfl) rfl eR
 intro a3 wd3 N3 D3 hO hR hA hU
 obtain ⟨_, t7, _⟩ := hA
 have E3 := E2.trans hR
 have s2_3 := oT hO s2_2 rfl
 have s3_3 := oT hO s3_2 rfl
 have s4_3 := oT hO s4_2 rfl
 have s5_3 := oT hO s5_2 rfl
 have B2_3 := B2_2.ext' hR
 have B3_3 := B3_2.ext' hR
 have B4_3 := B4_2.ext' hR
 have s7_3 : get a3 7 = Value.bool (true) := t7
 clear E2 N2 D2 s2_2 s3_2 s4_2 s5_2 B2_2 B3_2 B4_2
 refine tail_nil ?_
 refine wp_ifT s7_3 ?_
 refine wp_skip ?_
 refine wp_seq ?_
 refine wp_block ?_
 refine Ra [] [(10, Pr.ex (i64 ((0 : Nat) : Int))), (11, Pr.ex (i64 ((0 : Nat) : Int))), (12, Pr.ex (Value.pointer (some ⟨b2, 0, none⟩))), (13, Pr.ex (w32 (s.a))), (14, Pr.ex (i64 ((0 : Nat) : Int))), (15, Pr.ex (Value.pointer (some ⟨b3, 0, none⟩))), (16, Pr.ex (w32 ((d).a))), (17, Pr.ex (w32 ((s.a : UInt32) ^^^ ((d).a : UInt32)))), (18, Pr.ex (Value.pointer (some ⟨b2, 0, none⟩)))] 9 mixed N3 D3 ?_ ?_
 refine Ac ?_ (Ac ?_ (Ac ?_ (Ac ?_ (Ac ?_ (Ac ?_ (Ac ?_ (Ac ?_ (Ac ?_ (Az _)))))))))
 exact Am s5_3 rfl fun _ => rfl
 exact Am s5_3 rfl fun _ => rfl
 exact Ad fun aq wq _ hO hR hT => does_indexArr (k := .i64) (i := 0) (o' := 0) arr_75 (oT hO s2_3 rfl) (hT 11 rfl rfl) (by decide) (by decide) rfl eR
 exact Ad fun aq wq _ hO hR hT => does_loadD1 (o := 0) (V := w32 (s.a)) (hT 12 rfl rfl) (B2_3.ext' hR) rfl one_22 eR
 exact Am s5_3 rfl fun _ => rfl
 exact Ad fun aq wq _ hO hR hT => does_indexArr (k := .i64) (i := 0) (o' := 0) arr_24 (oT hO s3_3 rfl) (hT 14 rfl rfl) (by decide) (by decide) rfl eR
 exact Ad fun aq wq _ hO hR hT => does_loadD1 (o := 0) (V := w32 ((d).a)) (hT 15 rfl rfl) (B3_3.ext' hR) rfl one_22 eR
 exact Ad fun aq wq _ hO hR hT => does_xor32 (a := (s.a : UInt32)) (b := ((d).a : UInt32)) (hT 13 rfl rfl) (hT 16 rfl rfl) eR
 exact Ad fun aq wq _ hO hR hT => does_indexArr (k := .i64) (i := 0) (o' := 0) arr_75 (oT hO s2_3 rfl) (hT 10 rfl rfl) (by decide) (by decide) rfl eR
 intro a4 wd4 N4 D4 hO hR hA hU
 obtain ⟨_, _, _, _, _, _, _, t17, t18, _⟩ := hA
 have E4 := E3.trans hR
 have s2_4 := oT hO s2_3 rfl
 have s3_4 := oT hO s3_3 rfl
 have s4_4 := oT hO s4_3 rfl
 have s5_4 := oT hO s5_3 rfl
 have B2_4 := B2_3.ext' hR
 have B3_4 := B3_3.ext' hR
 have B4_4 := B4_3.ext' hR
 have s17_4 : get a4 17 = w32 ((s.a : UInt32) ^^^ ((d).a : UInt32)) := t17
 have s18_4 : get a4 18 = Value.pointer (some ⟨b2, 0, none⟩) := t18
 clear E3 N3 D3 s2_3 s3_3 s4_3 s5_3 s7_3 B2_3 B3_3 B4_3
 refine tail_none rfl rfl (does_storeD (o := 0) (n := 1) (cs' := [w32 ((s.a : UInt32) ^^^ ((d).a : UInt32)), w32 (s.b), w32 (s.c), w32 (s.d), w32 (s.e), w32 (s.f), w32 (s.g), w32 (s.h)]) (V := w32 ((s.a : UInt32) ^^^ ((d).a : UInt32))) s18_4 s17_4 B2_4 (nB rfl) rfl siz_22 rfl rfl (fun wd5 hX hz B2_5 => ?_))
 have E5 := E4.since hX (fun k e => e ▸ fr_b2)
 have B3_5 := B3_4.ext hX ne_b2_b3.symm
 have B4_5 := B4_4.ext hX ne_b2_b4.symm
 clear hX hz E4 B2_4 B3_4 B4_4
 refine tail_nil ?_
 refine Rl [] [(8, Pr.ex (i64 ((0 : Nat) : Int))), (9, Pr.ex (i64 ((1 : Nat) : Int)))] 2 N4 D4 ?_ ?_
 refine Ac ?_ (Ac ?_ (Az _))
 exact Am s5_4 rfl fun _ => rfl
 exact Ap fun aq wq _ hO hR hT => does_add (a := ((0 : Nat) : Int)) (b := ((1 : Nat) : Int)) (r := ((1 : Nat) : Int)) (hT 8 rfl rfl) rfl (by decide) (by decide) (by decide) eR
 intro a6 wd6 N6 D6 hO hR hA hU
 obtain ⟨_, t9, _⟩ := hA
 have E6 := E5.trans hR
 have s2_6 := oT hO s2_4 rfl
 have s3_6 := oT hO s3_4 rfl
 have s4_6 := oT hO s4_4 rfl
 have s5_6 := oT hO s5_4 rfl
 have B2_6 := B2_5.ext' hR
 have B3_6 := B3_5.ext' hR
 have B4_6 := B4_5.ext' hR
 have s9_6 : get a6 9 = i64 ((1 : Nat) : Int) := t9
 clear E5 N4 D4 s2_4 s3_4 s4_4 s5_4 s17_4 s18_4 B2_5 B3_5 B4_5
 refine tail_put rfl rfl N6 D6 (by decide) (does_assign (V := i64 ((1 : Nat) : Int)) s9_6 (fun a7 N7 D7 hv hO => ?_))
 have s5_7 := hv
 have s2_7 := oT hO s2_6 rfl
 have s3_7 := oT hO s3_6 rfl
 have s4_7 := oT hO s4_6 rfl
 clear hO hv N6 D6 s2_6 s3_6 s4_6 s9_6 s5_6
 refine tail_nil ?_
 refine round_step ?_
 refine wp_seq ?_
 refine wp_seq ?_
 refine Rl [] [(6, Pr.ex (i64 ((1 : Nat) : Int))), (7, Pr.ex (Value.bool (true)))] 2 N7 D7 ?_ ?_
 refine Ac ?_ (Ac ?_ (Az _))
 exact Am s5_7 rfl fun _ => rfl
 exact Ap fun aq wq _ hO hR hT => does_lss (a := ((1 : Nat) : Int)) (b := ((4 : Nat) : Int)) (hT 6 rfl rfl) rfl eR
 intro a8 wd8 N8 D8 hO hR hA hU
 obtain ⟨_, t7, _⟩ := hA
 have E8 := E6.trans hR
 have s2_8 := oT hO s2_7 rfl
 have s3_8 := oT hO s3_7 rfl
 have s4_8 := oT hO s4_7 rfl
 have s5_8 := oT hO s5_7 rfl
 have B2_8 := B2_6.ext' hR
 have B3_8 := B3_6.ext' hR
 have B4_8 := B4_6.ext' hR
 have s7_8 : get a8 7 = Value.bool (true) := t7
 clear E6 N7 D7 s2_7 s3_7 s4_7 s5_7 B2_6 B3_6 B4_6
 refine tail_nil ?_
 refine wp_ifT s7_8 ?_
 refine wp_skip ?_
 refine wp_seq ?_
 refine wp_block ?_
 refine Ra [] [(10, Pr.ex (i64 ((1 : Nat) : Int))), (11, Pr.ex (i64 ((1 : Nat) : Int))), (12, Pr.ex (Value.pointer (some ⟨b2, 1, none⟩))), (13, Pr.ex (w32 (s.b))), (14, Pr.ex (i64 ((1 : Nat) : Int))), (15, Pr.ex (Value.pointer (some ⟨b3, 1, none⟩))), (16, Pr.ex (w32 ((d).b))), (17, Pr.ex (w32 ((s.b : UInt32) ^^^ ((d).b : UInt32)))), (18, Pr.ex (Value.pointer (some ⟨b2, 1, none⟩)))] 9 mixed N8 D8 ?_ ?_
 refine Ac ?_ (Ac ?_ (Ac ?_ (Ac ?_ (Ac ?_ (Ac ?_ (Ac ?_ (Ac ?_ (Ac ?_ (Az _)))))))))
 exact Am s5_8 rfl fun _ => rfl
 exact Am s5_8 rfl fun _ => rfl
 exact Ad fun aq wq _ hO hR hT => does_indexArr (k := .i64) (i := 1) (o' := 1) arr_75 (oT hO s2_8 rfl) (hT 11 rfl rfl) (by decide) (by decide) rfl eR
 exact Ad fun aq wq _ hO hR hT => does_loadD1 (o := 1) (V := w32 (s.b)) (hT 12 rfl rfl) (B2_8.ext' hR) rfl one_22 eR
 exact Am s5_8 rfl fun _ => rfl
 exact Ad fun aq wq _ hO hR hT => does_indexArr (k := .i64) (i := 1) (o' := 1) arr_24 (oT hO s3_8 rfl) (hT 14 rfl rfl) (by decide) (by decide) rfl eR
 exact Ad fun aq wq _ hO hR hT => does_loadD1 (o := 1) (V := w32 ((d).b)) (hT 15 rfl rfl) (B3_8.ext' hR) rfl one_22 eR
 exact Ad fun aq wq _ hO hR hT => does_xor32 (a := (s.b : UInt32)) (b := ((d).b : UInt32)) (hT 13 rfl rfl) (hT 16 rfl rfl) eR
 exact Ad fun aq wq _ hO hR hT => does_indexArr (k := .i64) (i := 1) (o' := 1) arr_75 (oT hO s2_8 rfl) (hT 10 rfl rfl) (by decide) (by decide) rfl eR
 intro a9 wd9 N9 D9 hO hR hA hU
 obtain ⟨_, _, _, _, _, _, _, t17, t18, _⟩ := hA
 have E9 := E8.trans hR
 have s2_9 := oT hO s2_8 rfl
 have s3_9 := oT hO s3_8 rfl
 have s4_9 := oT hO s4_8 rfl
 have s5_9 := oT hO s5_8 rfl
 have B2_9 := B2_8.ext' hR
 have B3_9 := B3_8.ext' hR
 have B4_9 := B4_8.ext' hR
 have s17_9 : get a9 17 = w32 ((s.b : UInt32) ^^^ ((d).b : UInt32)) := t17
 have s18_9 : get a9 18 = Value.pointer (some ⟨b2, 1, none⟩) := t18
 clear E8 N8 D8 s2_8 s3_8 s4_8 s5_8 s7_8 B2_8 B3_8 B4_8
 refine tail_none rfl rfl (does_storeD (o := 1) (n := 1) (cs' := [w32 ((s.a : UInt32) ^^^ ((d).a : UInt32)), w32 ((s.b : UInt32) ^^^ ((d).b : UInt32)), w32 (s.c), w32 (s.d), w32 (s.e), w32 (s.f), w32 (s.g), w32 (s.h)]) (V := w32 ((s.b : UInt32) ^^^ ((d).b : UInt32))) s18_9 s17_9 B2_9 (nB rfl) rfl siz_22 rfl rfl (fun wd10 hX hz B2_10 => ?_))
 have E10 := E9.since hX (fun k e => e ▸ fr_b2)
 have B3_10 := B3_9.ext hX ne_b2_b3.symm
 have B4_10 := B4_9.ext hX ne_b2_b4.symm
 clear hX hz E9 B2_9 B3_9 B4_9
 refine tail_nil ?_
 refine Rl [] [(8, Pr.ex (i64 ((1 : Nat) : Int))), (9, Pr.ex (i64 ((2 : Nat) : Int)))] 2 N9 D9 ?_ ?_
 refine Ac ?_ (Ac ?_ (Az _))
 exact Am s5_9 rfl fun _ => rfl
 exact Ap fun aq wq _ hO hR hT => does_add (a := ((1 : Nat) : Int)) (b := ((1 : Nat) : Int)) (r := ((2 : Nat) : Int)) (hT 8 rfl rfl) rfl (by decide) (by decide) (by decide) eR
 intro a11 wd11 N11 D11 hO hR hA hU
 obtain ⟨_, t9, _⟩ := hA
 have E11 := E10.trans hR
 have s2_11 := oT hO s2_9 rfl
 have s3_11 := oT hO s3_9 rfl
 have s4_11 := oT hO s4_9 rfl
 have s5_11 := oT hO s5_9 rfl
 have B2_11 := B2_10.ext' hR
 have B3_11 := B3_10.ext' hR
 have B4_11 := B4_10.ext' hR
 have s9_11 : get a11 9 = i64 ((2 : Nat) : Int) := t9
 clear E10 N9 D9 s2_9 s3_9 s4_9 s5_9 s17_9 s18_9 B2_10 B3_10 B4_10
 refine tail_put rfl rfl N11 D11 (by decide) (does_assign (V := i64 ((2 : Nat) : Int)) s9_11 (fun a12 N12 D12 hv hO => ?_))
 have s5_12 := hv
 have s2_12 := oT hO s2_11 rfl
 have s3_12 := oT hO s3_11 rfl
 have s4_12 := oT hO s4_11 rfl
 clear hO hv N11 D11 s2_11 s3_11 s4_11 s9_11 s5_11
 refine tail_nil ?_
 refine round_step ?_
 refine wp_seq ?_
 refine wp_seq ?_
 refine Rl [] [(6, Pr.ex (i64 ((2 : Nat) : Int))), (7, Pr.ex (Value.bool (true)))] 2 N12 D12 ?_ ?_
 refine Ac ?_ (Ac ?_ (Az _))
 exact Am s5_12 rfl fun _ => rfl
 exact Ap fun aq wq _ hO hR hT => does_lss (a := ((2 : Nat) : Int)) (b := ((4 : Nat) : Int)) (hT 6 rfl rfl) rfl eR
 intro a13 wd13 N13 D13 hO hR hA hU
 obtain ⟨_, t7, _⟩ := hA
 have E13 := E11.trans hR
 have s2_13 := oT hO s2_12 rfl
 have s3_13 := oT hO s3_12 rfl
 have s4_13 := oT hO s4_12 rfl
 have s5_13 := oT hO s5_12 rfl
 have B2_13 := B2_11.ext' hR
 have B3_13 := B3_11.ext' hR
 have B4_13 := B4_11.ext' hR
 have s7_13 : get a13 7 = Value.bool (true) := t7
 clear E11 N12 D12 s2_12 s3_12 s4_12 s5_12 B2_11 B3_11 B4_11
 refine tail_nil ?_
 refine wp_ifT s7_13 ?_
 refine wp_skip ?_
 refine wp_seq ?_
 refine wp_block ?_
 refine Ra [] [(10, Pr.ex (i64 ((2 : Nat) : Int))), (11, Pr.ex (i64 ((2 : Nat) : Int))), (12, Pr.ex (Value.pointer (some ⟨b2, 2, none⟩))), (13, Pr.ex (w32 (s.c))), (14, Pr.ex (i64 ((2 : Nat) : Int))), (15, Pr.ex (Value.pointer (some ⟨b3, 2, none⟩))), (16, Pr.ex (w32 ((d).c))), (17, Pr.ex (w32 ((s.c : UInt32) ^^^ ((d).c : UInt32)))), (18, Pr.ex (Value.pointer (some ⟨b2, 2, none⟩)))] 9 mixed N13 D13 ?_ ?_
 refine Ac ?_ (Ac ?_ (Ac ?_ (Ac ?_ (Ac ?_ (Ac ?_ (Ac ?_ (Ac ?_ (Ac ?_ (Az _)))))))))
 exact Am s5_13 rfl fun _ => rfl
 exact Am s5_13 rfl fun _ => rfl
 exact Ad fun aq wq _ hO hR hT => does_indexArr (k := .i64) (i := 2) (o' := 2) arr_75 (oT hO s2_13 rfl) (hT 11 rfl rfl) (by decide) (by decide) rfl eR
 exact Ad fun aq wq _ hO hR hT => does_loadD1 (o := 2) (V := w32 (s.c)) (hT 12 rfl rfl) (B2_13.ext' hR) rfl one_22 eR
 exact Am s5_13 rfl fun _ => rfl
 exact Ad fun aq wq _ hO hR hT => does_indexArr (k := .i64) (i := 2) (o' := 2) arr_24 (oT hO s3_13 rfl) (hT 14 rfl rfl) (by decide) (by decide) rfl eR
 exact Ad fun aq wq _ hO hR hT => does_loadD1 (o := 2) (V := w32 ((d).c)) (hT 15 rfl rfl) (B3_13.ext' hR) rfl one_22 eR
 exact Ad fun aq wq _ hO hR hT => does_xor32 (a := (s.c : UInt32)) (b := ((d).c : UInt32)) (hT 13 rfl rfl) (hT 16 rfl rfl) eR
 exact Ad fun aq wq _ hO hR hT => does_indexArr (k := .i64) (i := 2) (o' := 2) arr_75 (oT hO s2_13 rfl) (hT 10 rfl rfl) (by decide) (by decide) rfl eR
 intro a14 wd14 N14 D14 hO hR hA hU
 obtain ⟨_, _, _, _, _, _, _, t17, t18, _⟩ := hA
 have E14 := E13.trans hR
 have s2_14 := oT hO s2_13 rfl
 have s3_14 := oT hO s3_13 rfl
 have s4_14 := oT hO s4_13 rfl
 have s5_14 := oT hO s5_13 rfl
 have B2_14 := B2_13.ext' hR
 have B3_14 := B3_13.ext' hR
 have B4_14 := B4_13.ext' hR
 have s17_14 : get a14 17 = w32 ((s.c : UInt32) ^^^ ((d).c : UInt32)) := t17
 have s18_14 : get a14 18 = Value.pointer (some ⟨b2, 2, none⟩) := t18
 clear E13 N13 D13 s2_13 s3_13 s4_13 s5_13 s7_13 B2_13 B3_13 B4_13
 refine tail_none rfl rfl (does_storeD (o := 2) (n := 1) (cs' := [w32 ((s.a : UInt32) ^^^ ((d).a : UInt32)), w32 ((s.b : UInt32) ^^^ ((d).b : UInt32)), w32 ((s.c : UInt32) ^^^ ((d).c : UInt32)), w32 (s.d), w32 (s.e), w32 (s.f), w32 (s.g), w32 (s.h)]) (V := w32 ((s.c : UInt32) ^^^ ((d).c : UInt32))) s18_14 s17_14 B2_14 (nB rfl) rfl siz_22 rfl rfl (fun wd15 hX hz B2_15 => ?_))
 have E15 := E14.since hX (fun k e => e ▸ fr_b2)
 have B3_15 := B3_14.ext hX ne_b2_b3.symm
 have B4_15 := B4_14.ext hX ne_b2_b4.symm
 clear hX hz E14 B2_14 B3_14 B4_14
 refine tail_nil ?_
 refine Rl [] [(8, Pr.ex (i64 ((2 : Nat) : Int))), (9, Pr.ex (i64 ((3 : Nat) : Int)))] 2 N14 D14 ?_ ?_
 refine Ac ?_ (Ac ?_ (Az _))
 exact Am s5_14 rfl fun _ => rfl
 exact Ap fun aq wq _ hO hR hT => does_add (a := ((2 : Nat) : Int)) (b := ((1 : Nat) : Int)) (r := ((3 : Nat) : Int)) (hT 8 rfl rfl) rfl (by decide) (by decide) (by decide) eR
 intro a16 wd16 N16 D16 hO hR hA hU
 obtain ⟨_, t9, _⟩ := hA
 have E16 := E15.trans hR
 have s2_16 := oT hO s2_14 rfl
 have s3_16 := oT hO s3_14 rfl
 have s4_16 := oT hO s4_14 rfl
 have s5_16 := oT hO s5_14 rfl
 have B2_16 := B2_15.ext' hR
 have B3_16 := B3_15.ext' hR
 have B4_16 := B4_15.ext' hR
 have s9_16 : get a16 9 = i64 ((3 : Nat) : Int) := t9
 clear E15 N14 D14 s2_14 s3_14 s4_14 s5_14 s17_14 s18_14 B2_15 B3_15 B4_15
 refine tail_put rfl rfl N16 D16 (by decide) (does_assign (V := i64 ((3 : Nat) : Int)) s9_16 (fun a17 N17 D17 hv hO => ?_))
 have s5_17 := hv
 have s2_17 := oT hO s2_16 rfl
 have s3_17 := oT hO s3_16 rfl
 have s4_17 := oT hO s4_16 rfl
 clear hO hv N16 D16 s2_16 s3_16 s4_16 s9_16 s5_16
 refine tail_nil ?_
 refine round_step ?_
 refine wp_seq ?_
 refine wp_seq ?_
 refine Rl [] [(6, Pr.ex (i64 ((3 : Nat) : Int))), (7, Pr.ex (Value.bool (true)))] 2 N17 D17 ?_ ?_
 refine Ac ?_ (Ac ?_ (Az _))
 exact Am s5_17 rfl fun _ => rfl
 exact Ap fun aq wq _ hO hR hT => does_lss (a := ((3 : Nat) : Int)) (b := ((4 : Nat) : Int)) (hT 6 rfl rfl) rfl eR
 intro a18 wd18 N18 D18 hO hR hA hU
 obtain ⟨_, t7, _⟩ := hA
 have E18 := E16.trans hR
 have s2_18 := oT hO s2_17 rfl
 have s3_18 := oT hO s3_17 rfl
 have s4_18 := oT hO s4_17 rfl
 have s5_18 := oT hO s5_17 rfl
 have B2_18 := B2_16.ext' hR
 have B3_18 := B3_16.ext' hR
 have B4_18 := B4_16.ext' hR
 have s7_18 : get a18 7 = Value.bool (true) := t7
 clear E16 N17 D17 s2_17 s3_17 s4_17 s5_17 B2_16 B3_16 B4_16
 refine tail_nil ?_
 refine wp_ifT s7_18 ?_
 refine wp_skip ?_
 refine wp_seq ?_
 refine wp_block ?_
 refine Ra [] [(10, Pr.ex (i64 ((3 : Nat) : Int))), (11, Pr.ex (i64 ((3 : Nat) : Int))), (12, Pr.ex (Value.pointer (some ⟨b2, 3, none⟩))), (13, Pr.ex (w32 (s.d))), (14, Pr.ex (i64 ((3 : Nat) : Int))), (15, Pr.ex (Value.pointer (some ⟨b3, 3, none⟩))), (16, Pr.ex (w32 ((d).d))), (17, Pr.ex (w32 ((s.d : UInt32) ^^^ ((d).d : UInt32)))), (18, Pr.ex (Value.pointer (some ⟨b2, 3, none⟩)))] 9 mixed N18 D18 ?_ ?_
 refine Ac ?_ (Ac ?_ (Ac ?_ (Ac ?_ (Ac ?_ (Ac ?_ (Ac ?_ (Ac ?_ (Ac ?_ (Az _)))))))))
 exact Am s5_18 rfl fun _ => rfl
 exact Am s5_18 rfl fun _ => rfl
 exact Ad fun aq wq _ hO hR hT => does_indexArr (k := .i64) (i := 3) (o' := 3) arr_75 (oT hO s2_18 rfl) (hT 11 rfl rfl) (by decide) (by decide) rfl eR
 exact Ad fun aq wq _ hO hR hT => does_loadD1 (o := 3) (V := w32 (s.d)) (hT 12 rfl rfl) (B2_18.ext' hR) rfl one_22 eR
 exact Am s5_18 rfl fun _ => rfl
 exact Ad fun aq wq _ hO hR hT => does_indexArr (k := .i64) (i := 3) (o' := 3) arr_24 (oT hO s3_18 rfl) (hT 14 rfl rfl) (by decide) (by decide) rfl eR
 exact Ad fun aq wq _ hO hR hT => does_loadD1 (o := 3) (V := w32 ((d).d)) (hT 15 rfl rfl) (B3_18.ext' hR) rfl one_22 eR
 exact Ad fun aq wq _ hO hR hT => does_xor32 (a := (s.d : UInt32)) (b := ((d).d : UInt32)) (hT 13 rfl rfl) (hT 16 rfl rfl) eR
 exact Ad fun aq wq _ hO hR hT => does_indexArr (k := .i64) (i := 3) (o' := 3) arr_75 (oT hO s2_18 rfl) (hT 10 rfl rfl) (by decide) (by decide) rfl eR
 intro a19 wd19 N19 D19 hO hR hA hU
 obtain ⟨_, _, _, _, _, _, _, t17, t18, _⟩ := hA
 have E19 := E18.trans hR
 have s2_19 := oT hO s2_18 rfl
 have s3_19 := oT hO s3_18 rfl
 have s4_19 := oT hO s4_18 rfl
 have s5_19 := oT hO s5_18 rfl
 have B2_19 := B2_18.ext' hR
 have B3_19 := B3_18.ext' hR
 have B4_19 := B4_18.ext' hR
 have s17_19 : get a19 17 = w32 ((s.d : UInt32) ^^^ ((d).d : UInt32)) := t17
 have s18_19 : get a19 18 = Value.pointer (some ⟨b2, 3, none⟩) := t18
 clear E18 N18 D18 s2_18 s3_18 s4_18 s5_18 s7_18 B2_18 B3_18 B4_18
 refine tail_none rfl rfl (does_storeD (o := 3) (n := 1) (cs' := [w32 ((s.a : UInt32) ^^^ ((d).a : UInt32)), w32 ((s.b : UInt32) ^^^ ((d).b : UInt32)), w32 ((s.c : UInt32) ^^^ ((d).c : UInt32)), w32 ((s.d : UInt32) ^^^ ((d).d : UInt32)), w32 (s.e), w32 (s.f), w32 (s.g), w32 (s.h)]) (V := w32 ((s.d : UInt32) ^^^ ((d).d : UInt32))) s18_19 s17_19 B2_19 (nB rfl) rfl siz_22 rfl rfl (fun wd20 hX hz B2_20 => ?_))
 have E20 := E19.since hX (fun k e => e ▸ fr_b2)
 have B3_20 := B3_19.ext hX ne_b2_b3.symm
 have B4_20 := B4_19.ext hX ne_b2_b4.symm
 clear hX hz E19 B2_19 B3_19 B4_19
 refine tail_nil ?_
 refine Rl [] [(8, Pr.ex (i64 ((3 : Nat) : Int))), (9, Pr.ex (i64 ((4 : Nat) : Int)))] 2 N19 D19 ?_ ?_
 refine Ac ?_ (Ac ?_ (Az _))
 exact Am s5_19 rfl fun _ => rfl
 exact Ap fun aq wq _ hO hR hT => does_add (a := ((3 : Nat) : Int)) (b := ((1 : Nat) : Int)) (r := ((4 : Nat) : Int)) (hT 8 rfl rfl) rfl (by decide) (by decide) (by decide) eR
 intro a21 wd21 N21 D21 hO hR hA hU
 obtain ⟨_, t9, _⟩ := hA
 have E21 := E20.trans hR
 have s2_21 := oT hO s2_19 rfl
 have s3_21 := oT hO s3_19 rfl
 have s4_21 := oT hO s4_19 rfl
 have s5_21 := oT hO s5_19 rfl
 have B2_21 := B2_20.ext' hR
 have B3_21 := B3_20.ext' hR
 have B4_21 := B4_20.ext' hR
 have s9_21 : get a21 9 = i64 ((4 : Nat) : Int) := t9
 clear E20 N19 D19 s2_19 s3_19 s4_19 s5_19 s17_19 s18_19 B2_20 B3_20 B4_20
 refine tail_put rfl rfl N21 D21 (by decide) (does_assign (V := i64 ((4 : Nat) : Int)) s9_21 (fun a22 N22 D22 hv hO => ?_))
 have s5_22 := hv
 have s2_22 := oT hO s2_21 rfl
 have s3_22 := oT hO s3_21 rfl
 have s4_22 := oT hO s4_21 rfl
 clear hO hv N21 D21 s2_21 s3_21 s4_21 s9_21 s5_21
 refine tail_nil ?_
 refine round_step ?_
 refine wp_seq ?_
 refine wp_seq ?_
 refine Rl [] [(6, Pr.ex (i64 ((4 : Nat) : Int))), (7, Pr.ex (Value.bool (false)))] 2 N22 D22 ?_ ?_
 refine Ac ?_ (Ac ?_ (Az _))
 exact Am s5_22 rfl fun _ => rfl
 exact Ap fun aq wq _ hO hR hT => does_lss (a := ((4 : Nat) : Int)) (b := ((4 : Nat) : Int)) (hT 6 rfl rfl) rfl eR
 intro a23 wd23 N23 D23 hO hR hA hU
 obtain ⟨_, t7, _⟩ := hA
 have E23 := E21.trans hR
 have s2_23 := oT hO s2_22 rfl
 have s3_23 := oT hO s3_22 rfl
 have s4_23 := oT hO s4_22 rfl
 have s5_23 := oT hO s5_22 rfl
 have B2_23 := B2_21.ext' hR
 have B3_23 := B3_21.ext' hR
 have B4_23 := B4_21.ext' hR
 have s7_23 : get a23 7 = Value.bool (false) := t7
 clear E21 N22 D22 s2_22 s3_22 s4_22 s5_22 B2_21 B3_21 B4_21
 refine tail_nil ?_
 refine wp_ifF s7_23 ?_
 refine wp_exit ?_
 refine wp_seq ?_
 refine Rl [] [(19, Pr.ex (Value.agg #[w32 ((s.a : UInt32) ^^^ ((d).a : UInt32)), w32 ((s.b : UInt32) ^^^ ((d).b : UInt32)), w32 ((s.c : UInt32) ^^^ ((d).c : UInt32)), w32 ((s.d : UInt32) ^^^ ((d).d : UInt32)), w32 (s.e), w32 (s.f), w32 (s.g), w32 (s.h)])), (20, Pr.ex (Value.agg #[w32 (((⟨(s.a : UInt32) ^^^ ((d).a : UInt32), (s.b : UInt32) ^^^ ((d).b : UInt32), (s.c : UInt32) ^^^ ((d).c : UInt32), (s.d : UInt32) ^^^ ((d).d : UInt32), s.e, s.f, s.g, s.h⟩ : St)).mix.a), w32 (((⟨(s.a : UInt32) ^^^ ((d).a : UInt32), (s.b : UInt32) ^^^ ((d).b : UInt32), (s.c : UInt32) ^^^ ((d).c : UInt32), (s.d : UInt32) ^^^ ((d).d : UInt32), s.e, s.f, s.g, s.h⟩ : St)).mix.b), w32 (((⟨(s.a : UInt32) ^^^ ((d).a : UInt32), (s.b : UInt32) ^^^ ((d).b : UInt32), (s.c : UInt32) ^^^ ((d).c : UInt32), (s.d : UInt32) ^^^ ((d).d : UInt32), s.e, s.f, s.g, s.h⟩ : St)).mix.c), w32 (((⟨(s.a : UInt32) ^^^ ((d).a : UInt32), (s.b : UInt32) ^^^ ((d).b : UInt32), (s.c : UInt32) ^^^ ((d).c : UInt32), (s.d : UInt32) ^^^ ((d).d : UInt32), s.e, s.f, s.g, s.h⟩ : St)).mix.d), w32 (((⟨(s.a : UInt32) ^^^ ((d).a : UInt32), (s.b : UInt32) ^^^ ((d).b : UInt32), (s.c : UInt32) ^^^ ((d).c : UInt32), (s.d : UInt32) ^^^ ((d).d : UInt32), s.e, s.f, s.g, s.h⟩ : St)).mix.e), w32 (((⟨(s.a : UInt32) ^^^ ((d).a : UInt32), (s.b : UInt32) ^^^ ((d).b : UInt32), (s.c : UInt32) ^^^ ((d).c : UInt32), (s.d : UInt32) ^^^ ((d).d : UInt32), s.e, s.f, s.g, s.h⟩ : St)).mix.f), w32 (((⟨(s.a : UInt32) ^^^ ((d).a : UInt32), (s.b : UInt32) ^^^ ((d).b : UInt32), (s.c : UInt32) ^^^ ((d).c : UInt32), (s.d : UInt32) ^^^ ((d).d : UInt32), s.e, s.f, s.g, s.h⟩ : St)).mix.g), w32 (((⟨(s.a : UInt32) ^^^ ((d).a : UInt32), (s.b : UInt32) ^^^ ((d).b : UInt32), (s.c : UInt32) ^^^ ((d).c : UInt32), (s.d : UInt32) ^^^ ((d).d : UInt32), s.e, s.f, s.g, s.h⟩ : St)).mix.h)]))] 2 N23 D23 ?_ ?_
 refine Ac ?_ (Ac ?_ (Az _))
 exact Ap fun aq wq _ hO hR hT => does_loadD (o := 0) (n := 8) (mid := [w32 ((s.a : UInt32) ^^^ ((d).a : UInt32)), w32 ((s.b : UInt32) ^^^ ((d).b : UInt32)), w32 ((s.c : UInt32) ^^^ ((d).c : UInt32)), w32 ((s.d : UInt32) ^^^ ((d).d : UInt32)), w32 (s.e), w32 (s.f), w32 (s.g), w32 (s.h)]) (oT hO s2_23 rfl) (B2_23.ext' hR) rfl rfl (nB rfl) row_75 rfl eR
 exact Ap fun aq wq _ hO hR hT => does_ret (vs := #[Value.agg #[w32 ((s.a : UInt32) ^^^ ((d).a : UInt32)), w32 ((s.b : UInt32) ^^^ ((d).b : UInt32)), w32 ((s.c : UInt32) ^^^ ((d).c : UInt32)), w32 ((s.d : UInt32) ^^^ ((d).d : UInt32)), w32 (s.e), w32 (s.f), w32 (s.g), w32 (s.h)]]) call_62 (args1 (hT 19 rfl rfl)) rfl ((mixR (⟨(s.a : UInt32) ^^^ ((d).a : UInt32), (s.b : UInt32) ^^^ ((d).b : UInt32), (s.c : UInt32) ^^^ ((d).c : UInt32), (s.d : UInt32) ^^^ ((d).d : UInt32), s.e, s.f, s.g, s.h⟩ : St) wq).mono fun v w2 h => ⟨h.2, h.1⟩)
 intro a24 wd24 N24 D24 hO hR hA hU
 obtain ⟨_, t20, _⟩ := hA
 have E24 := E23.trans hR
 have s4_24 := oT hO s4_23 rfl
 have B2_24 := B2_23.ext' hR
 have B3_24 := B3_23.ext' hR
 have B4_24 := B4_23.ext' hR
 have s20_24 : get a24 20 = Value.agg #[w32 (((⟨(s.a : UInt32) ^^^ ((d).a : UInt32), (s.b : UInt32) ^^^ ((d).b : UInt32), (s.c : UInt32) ^^^ ((d).c : UInt32), (s.d : UInt32) ^^^ ((d).d : UInt32), s.e, s.f, s.g, s.h⟩ : St)).mix.a), w32 (((⟨(s.a : UInt32) ^^^ ((d).a : UInt32), (s.b : UInt32) ^^^ ((d).b : UInt32), (s.c : UInt32) ^^^ ((d).c : UInt32), (s.d : UInt32) ^^^ ((d).d : UInt32), s.e, s.f, s.g, s.h⟩ : St)).mix.b), w32 (((⟨(s.a : UInt32) ^^^ ((d).a : UInt32), (s.b : UInt32) ^^^ ((d).b : UInt32), (s.c : UInt32) ^^^ ((d).c : UInt32), (s.d : UInt32) ^^^ ((d).d : UInt32), s.e, s.f, s.g, s.h⟩ : St)).mix.c), w32 (((⟨(s.a : UInt32) ^^^ ((d).a : UInt32), (s.b : UInt32) ^^^ ((d).b : UInt32), (s.c : UInt32) ^^^ ((d).c : UInt32), (s.d : UInt32) ^^^ ((d).d : UInt32), s.e, s.f, s.g, s.h⟩ : St)).mix.d), w32 (((⟨(s.a : UInt32) ^^^ ((d).a : UInt32), (s.b : UInt32) ^^^ ((d).b : UInt32), (s.c : UInt32) ^^^ ((d).c : UInt32), (s.d : UInt32) ^^^ ((d).d : UInt32), s.e, s.f, s.g, s.h⟩ : St)).mix.e), w32 (((⟨(s.a : UInt32) ^^^ ((d).a : UInt32), (s.b : UInt32) ^^^ ((d).b : UInt32), (s.c : UInt32) ^^^ ((d).c : UInt32), (s.d : UInt32) ^^^ ((d).d : UInt32), s.e, s.f, s.g, s.h⟩ : St)).mix.f), w32 (((⟨(s.a : UInt32) ^^^ ((d).a : UInt32), (s.b : UInt32) ^^^ ((d).b : UInt32), (s.c : UInt32) ^^^ ((d).c : UInt32), (s.d : UInt32) ^^^ ((d).d : UInt32), s.e, s.f, s.g, s.h⟩ : St)).mix.g), w32 (((⟨(s.a : UInt32) ^^^ ((d).a : UInt32), (s.b : UInt32) ^^^ ((d).b : UInt32), (s.c : UInt32) ^^^ ((d).c : UInt32), (s.d : UInt32) ^^^ ((d).d : UInt32), s.e, s.f, s.g, s.h⟩ : St)).mix.h)] := t20
 clear E23 N23 D23 s2_23 s3_23 s4_23 s5_23 s7_23 B2_23 B3_23 B4_23
 refine tail_none rfl rfl (does_storeD (o := 0) (n := 8) (cs' := [w32 (((⟨(s.a : UInt32) ^^^ ((d).a : UInt32), (s.b : UInt32) ^^^ ((d).b : UInt32), (s.c : UInt32) ^^^ ((d).c : UInt32), (s.d : UInt32) ^^^ ((d).d : UInt32), s.e, s.f, s.g, s.h⟩ : St)).mix.a), w32 (((⟨(s.a : UInt32) ^^^ ((d).a : UInt32), (s.b : UInt32) ^^^ ((d).b : UInt32), (s.c : UInt32) ^^^ ((d).c : UInt32), (s.d : UInt32) ^^^ ((d).d : UInt32), s.e, s.f, s.g, s.h⟩ : St)).mix.b), w32 (((⟨(s.a : UInt32) ^^^ ((d).a : UInt32), (s.b : UInt32) ^^^ ((d).b : UInt32), (s.c : UInt32) ^^^ ((d).c : UInt32), (s.d : UInt32) ^^^ ((d).d : UInt32), s.e, s.f, s.g, s.h⟩ : St)).mix.c), w32 (((⟨(s.a : UInt32) ^^^ ((d).a : UInt32), (s.b : UInt32) ^^^ ((d).b : UInt32), (s.c : UInt32) ^^^ ((d).c : UInt32), (s.d : UInt32) ^^^ ((d).d : UInt32), s.e, s.f, s.g, s.h⟩ : St)).mix.d), w32 (((⟨(s.a : UInt32) ^^^ ((d).a : UInt32), (s.b : UInt32) ^^^ ((d).b : UInt32), (s.c : UInt32) ^^^ ((d).c : UInt32), (s.d : UInt32) ^^^ ((d).d : UInt32), s.e, s.f, s.g, s.h⟩ : St)).mix.e), w32 (((⟨(s.a : UInt32) ^^^ ((d).a : UInt32), (s.b : UInt32) ^^^ ((d).b : UInt32), (s.c : UInt32) ^^^ ((d).c : UInt32), (s.d : UInt32) ^^^ ((d).d : UInt32), s.e, s.f, s.g, s.h⟩ : St)).mix.f), w32 (((⟨(s.a : UInt32) ^^^ ((d).a : UInt32), (s.b : UInt32) ^^^ ((d).b : UInt32), (s.c : UInt32) ^^^ ((d).c : UInt32), (s.d : UInt32) ^^^ ((d).d : UInt32), s.e, s.f, s.g, s.h⟩ : St)).mix.g), w32 (((⟨(s.a : UInt32) ^^^ ((d).a : UInt32), (s.b : UInt32) ^^^ ((d).b : UInt32), (s.c : UInt32) ^^^ ((d).c : UInt32), (s.d : UInt32) ^^^ ((d).d : UInt32), s.e, s.f, s.g, s.h⟩ : St)).mix.h)]) (V := Value.agg #[w32 (((⟨(s.a : UInt32) ^^^ ((d).a : UInt32), (s.b : UInt32) ^^^ ((d).b : UInt32), (s.c : UInt32) ^^^ ((d).c : UInt32), (s.d : UInt32) ^^^ ((d).d : UInt32), s.e, s.f, s.g, s.h⟩ : St)).mix.a), w32 (((⟨(s.a : UInt32) ^^^ ((d).a : UInt32), (s.b : UInt32) ^^^ ((d).b : UInt32), (s.c : UInt32) ^^^ ((d).c : UInt32), (s.d : UInt32) ^^^ ((d).d : UInt32), s.e, s.f, s.g, s.h⟩ : St)).mix.b), w32 (((⟨(s.a : UInt32) ^^^ ((d).a : UInt32), (s.b : UInt32) ^^^ ((d).b : UInt32), (s.c : UInt32) ^^^ ((d).c : UInt32), (s.d : UInt32) ^^^ ((d).d : UInt32), s.e, s.f, s.g, s.h⟩ : St)).mix.c), w32 (((⟨(s.a : UInt32) ^^^ ((d).a : UInt32), (s.b : UInt32) ^^^ ((d).b : UInt32), (s.c : UInt32) ^^^ ((d).c : UInt32), (s.d : UInt32) ^^^ ((d).d : UInt32), s.e, s.f, s.g, s.h⟩ : St)).mix.d), w32 (((⟨(s.a : UInt32) ^^^ ((d).a : UInt32), (s.b : UInt32) ^^^ ((d).b : UInt32), (s.c : UInt32) ^^^ ((d).c : UInt32), (s.d : UInt32) ^^^ ((d).d : UInt32), s.e, s.f, s.g, s.h⟩ : St)).mix.e), w32 (((⟨(s.a : UInt32) ^^^ ((d).a : UInt32), (s.b : UInt32) ^^^ ((d).b : UInt32), (s.c : UInt32) ^^^ ((d).c : UInt32), (s.d : UInt32) ^^^ ((d).d : UInt32), s.e, s.f, s.g, s.h⟩ : St)).mix.f), w32 (((⟨(s.a : UInt32) ^^^ ((d).a : UInt32), (s.b : UInt32) ^^^ ((d).b : UInt32), (s.c : UInt32) ^^^ ((d).c : UInt32), (s.d : UInt32) ^^^ ((d).d : UInt32), s.e, s.f, s.g, s.h⟩ : St)).mix.g), w32 (((⟨(s.a : UInt32) ^^^ ((d).a : UInt32), (s.b : UInt32) ^^^ ((d).b : UInt32), (s.c : UInt32) ^^^ ((d).c : UInt32), (s.d : UInt32) ^^^ ((d).d : UInt32), s.e, s.f, s.g, s.h⟩ : St)).mix.h)]) s4_24 s20_24 B4_24 (nB rfl) rfl siz_75 rfl rfl (fun wd25 hX hz B4_25 => ?_))
 have E25 := E24.since hX (fun k e => e ▸ fr_b4)
 have B2_25 := B2_24.ext hX ne_b2_b4
 have B3_25 := B3_24.ext hX ne_b3_b4
 clear hX hz E24 B2_24 B3_24 B4_24
 refine tail_nil ?_
 refine wp_ret ?_
 refine res_one (V := Value.agg #[w32 (((⟨(s.a : UInt32) ^^^ ((d).a : UInt32), (s.b : UInt32) ^^^ ((d).b : UInt32), (s.c : UInt32) ^^^ ((d).c : UInt32), (s.d : UInt32) ^^^ ((d).d : UInt32), s.e, s.f, s.g, s.h⟩ : St)).mix.a), w32 (((⟨(s.a : UInt32) ^^^ ((d).a : UInt32), (s.b : UInt32) ^^^ ((d).b : UInt32), (s.c : UInt32) ^^^ ((d).c : UInt32), (s.d : UInt32) ^^^ ((d).d : UInt32), s.e, s.f, s.g, s.h⟩ : St)).mix.b), w32 (((⟨(s.a : UInt32) ^^^ ((d).a : UInt32), (s.b : UInt32) ^^^ ((d).b : UInt32), (s.c : UInt32) ^^^ ((d).c : UInt32), (s.d : UInt32) ^^^ ((d).d : UInt32), s.e, s.f, s.g, s.h⟩ : St)).mix.c), w32 (((⟨(s.a : UInt32) ^^^ ((d).a : UInt32), (s.b : UInt32) ^^^ ((d).b : UInt32), (s.c : UInt32) ^^^ ((d).c : UInt32), (s.d : UInt32) ^^^ ((d).d : UInt32), s.e, s.f, s.g, s.h⟩ : St)).mix.d), w32 (((⟨(s.a : UInt32) ^^^ ((d).a : UInt32), (s.b : UInt32) ^^^ ((d).b : UInt32), (s.c : UInt32) ^^^ ((d).c : UInt32), (s.d : UInt32) ^^^ ((d).d : UInt32), s.e, s.f, s.g, s.h⟩ : St)).mix.e), w32 (((⟨(s.a : UInt32) ^^^ ((d).a : UInt32), (s.b : UInt32) ^^^ ((d).b : UInt32), (s.c : UInt32) ^^^ ((d).c : UInt32), (s.d : UInt32) ^^^ ((d).d : UInt32), s.e, s.f, s.g, s.h⟩ : St)).mix.f), w32 (((⟨(s.a : UInt32) ^^^ ((d).a : UInt32), (s.b : UInt32) ^^^ ((d).b : UInt32), (s.c : UInt32) ^^^ ((d).c : UInt32), (s.d : UInt32) ^^^ ((d).d : UInt32), s.e, s.f, s.g, s.h⟩ : St)).mix.g), w32 (((⟨(s.a : UInt32) ^^^ ((d).a : UInt32), (s.b : UInt32) ^^^ ((d).b : UInt32), (s.c : UInt32) ^^^ ((d).c : UInt32), (s.d : UInt32) ^^^ ((d).d : UInt32), s.e, s.f, s.g, s.h⟩ : St)).mix.h)]) rfl D24 (ResIs.cell s4_24 B4_25 row_75 rfl rfl) ?_
 exact ⟨rfl, E25⟩

theorem pair_ (a b : Dg) (w0 : World) (hL : Laid w0) :
    Gives Tryd.prog 21 #[Dg.val (a), Dg.val (b)] w0 (Pr.ex (Dg.val (pair a b))) := by
 refine enter (N := 9) Tryd.func21 rfl rfl ?_
 intro a0 N0 D0 hA
 have s0_0 : get a0 0 = Dg.val (a) := hA 0 _ rfl
 have s1_0 : get a0 1 = Dg.val (b) := hA 1 _ rfl
 clear hA
 have E0 : Ext w0 w0 := Ext.refl w0
 refine wp_seq ?_
 refine Rl [2, 3, 4] [(2, Pr.box' w0.heap.size 24 [w32 (a).a, w32 (a).b, w32 (a).c, w32 (a).d]), (3, Pr.box' w0.heap.size 24 [w32 (b).a, w32 (b).b, w32 (b).c, w32 (b).d]), (4, Pr.box' w0.heap.size 24 [w32 (Dg.zero).a, w32 (Dg.zero).b, w32 (Dg.zero).c, w32 (Dg.zero).d])] 3 N0 D0 ?_ ?_
 refine Ac ?_ (Ac ?_ (Ac ?_ (Az _)))
 refine Ask.fresh rfl rfl ?_
 intro aq wq hNq hO hR hT
 exact does_box (V := Dg.val (a)) (oT hO s0_0 rfl) (fun b w2 he hlo hb => ⟨he, ⟨b, rfl, Nat.le_trans hR.size' hlo, hb⟩, ⟨b, rfl, hlo, hb.lt⟩⟩)
 refine Ask.fresh rfl rfl ?_
 intro aq wq hNq hO hR hT
 exact does_box (V := Dg.val (b)) (oT hO s1_0 rfl) (fun b w2 he hlo hb => ⟨he, ⟨b, rfl, Nat.le_trans hR.size' hlo, hb⟩, ⟨b, rfl, hlo, hb.lt⟩⟩)
 refine Ask.fresh rfl rfl ?_
 intro aq wq hNq hO hR hT
 exact does_alloc zero_24 (fun b w2 he hlo hb => ⟨he, ⟨b, rfl, Nat.le_trans hR.size' hlo, hb⟩, ⟨b, rfl, hlo, hb.lt⟩⟩)
 intro a1 wd1 N1 D1 hO hR hA hU
 obtain ⟨t2, t3, t4, _⟩ := hA
 have E1 := E0.trans hR
 obtain ⟨b2, s2_1, lo_b2, B2_1⟩ := t2
 have fr_b2 : w0.heap.size ≤ b2 := Nat.le_trans E0.size' lo_b2
 obtain ⟨b3, s3_1, lo_b3, B3_1⟩ := t3
 have fr_b3 : w0.heap.size ≤ b3 := Nat.le_trans E0.size' lo_b3
 obtain ⟨b4, s4_1, lo_b4, B4_1⟩ := t4
 have fr_b4 : w0.heap.size ≤ b4 := Nat.le_trans E0.size' lo_b4
 obtain ⟨u0, ⟨u1, ⟨u2, _⟩⟩⟩ := hU
 have ne_b2_b3 : b2 ≠ b3 := fun e => u0 3 (by decide) (by rw [s2_1, s3_1, e])
 have ne_b2_b4 : b2 ≠ b4 := fun e => u0 4 (by decide) (by rw [s2_1, s4_1, e])
 have ne_b3_b4 : b3 ≠ b4 := fun e => u1 4 (by decide) (by rw [s3_1, s4_1, e])
 clear E0 N0 D0 s0_0 s1_0
 refine tail_nil ?_
 refine wp_seq ?_
 refine Ra [] [(5, Pr.ex (Value.slice (some ⟨b2, 0, none⟩) 4 4)), (6, Pr.ex (Value.slice (some ⟨b3, 0, none⟩) 4 4))] 2 mixed N1 D1 ?_ ?_
 refine Ac ?_ (Ac ?_ (Az _))
 exact Ad fun aq wq _ hO hR hT => does_arrAll arr_24 (oT hO s2_1 rfl) eR
 exact Ad fun aq wq _ hO hR hT => does_arrAll arr_24 (oT hO s3_1 rfl) eR
 intro a2 wd2 N2 D2 hO hR hA hU
 obtain ⟨t5, t6, _⟩ := hA
 have E2 := E1.trans hR
 have s4_2 := oT hO s4_1 rfl
 have B2_2 := B2_1.ext' hR
 have B3_2 := B3_1.ext' hR
 have B4_2 := B4_1.ext' hR
 have s5_2 : get a2 5 = Value.slice (some ⟨b2, 0, none⟩) 4 4 := t5
 have s6_2 : get a2 6 = Value.slice (some ⟨b3, 0, none⟩) 4 4 := t6
 clear E1 N1 D1 s2_1 s3_1 s4_1 B2_1 B3_1 B4_1
 refine tail_put rfl rfl N2 D2 (by decide) (does_appendG (T := W32) (base := wd2.heap.size) (xs := [(a).a, (a).b, (a).c, (a).d]) (ys := [(b).a, (b).b, (b).c, (b).d]) app_58 s5_2 (SlT.at s5_2 (SlT.ofHas (T := W32) (xs := [(a).a, (a).b, (a).c, (a).d]) B2_2 rfl rfl (nB rfl) (nB rfl))) (SlT.at s6_2 (SlT.ofHas (T := W32) (xs := [(b).a, (b).b, (b).c, (b).d]) B3_2 rfl rfl (nB rfl) (nB rfl))) (by simp) (by simp) (by simp) (Nat.le_refl _) (fun x7 wd3 he O7_3 hk a3 N3 D3 hv hO => ?_))
 have E3 := E2.trans he
 have B2_3 := B2_2.ext' he
 have B3_3 := B3_2.ext' he
 have B4_3 := B4_2.ext' he
 have nbo_x7_b2 := Ob1 O7_3 B2_2
 have nbo_x7_b3 := Ob1 O7_3 B3_2
 have nbo_x7_b4 := Ob1 O7_3 B4_2
 have X7_3 := O7_3.sl.wide (Nat.zero_le _) (.inl rfl)
 replace O7_3 := OwnT.base O7_3 E2.size'
 have s7_3 := hv
 have s4_3 := oT hO s4_2 rfl
 clear hO hv hk N2 D2 E2 B2_2 B3_2 B4_2 s4_2 s5_2 s6_2
 refine tail_put rfl rfl N3 D3 (by decide) (does_ret (vs := #[w32 (2), x7]) call_34 (args2 rfl s7_3) rfl ((take (2) ([(a).a, (a).b, (a).c, (a).d] ++ [(b).a, (b).b, (b).c, (b).d]) (x7) wd3 (hL.ext E3) (X7_3.wide (Nat.zero_le _) (.inl rfl))).mono fun v wd4 h => fun a4 N4 D4 hv hO => ?_))
 have he := h.2
 have hR := he
 have hp : (Pr.ex (Dg.val (((St.first 2).takes ([(a).a, (a).b, (a).c, (a).d] ++ [(b).a, (b).b, (b).c, (b).d])).out))).p v wd4 := h.1
 clear h
 have E4 := E3.trans he
 have B2_4 := B2_3.ext' he
 have B3_4 := B3_3.ext' he
 have B4_4 := B4_3.ext' he
 have X7_4 := X7_3.ext' he
 have O7_4 := O7_3.ext' he
 replace hp : v = Dg.val (((St.first 2).takes ([(a).a, (a).b, (a).c, (a).d] ++ [(b).a, (b).b, (b).c, (b).d])).out) := hp
 have s8_4 := hv.trans hp
 have s4_4 := oT hO s4_3 rfl
 clear hO hv N3 D3 E3 B2_3 B3_3 B4_3 X7_3 O7_3 s4_3 s7_3
 refine tail_none rfl rfl (does_storeD (o := 0) (n := 4) (cs' := [w32 (((St.first 2).takes ([(a).a, (a).b, (a).c, (a).d] ++ [(b).a, (b).b, (b).c, (b).d])).out).a, w32 (((St.first 2).takes ([(a).a, (a).b, (a).c, (a).d] ++ [(b).a, (b).b, (b).c, (b).d])).out).b, w32 (((St.first 2).takes ([(a).a, (a).b, (a).c, (a).d] ++ [(b).a, (b).b, (b).c, (b).d])).out).c, w32 (((St.first 2).takes ([(a).a, (a).b, (a).c, (a).d] ++ [(b).a, (b).b, (b).c, (b).d])).out).d]) (V := Dg.val (((St.first 2).takes ([(a).a, (a).b, (a).c, (a).d] ++ [(b).a, (b).b, (b).c, (b).d])).out)) s4_4 s8_4 B4_4 (nB rfl) rfl siz_24 rfl rfl (fun wd5 hX hz B4_5 => ?_))
 have E5 := E4.since hX (fun k e => e ▸ fr_b4)
 have B2_5 := B2_4.ext hX ne_b2_b4
 have B3_5 := B3_4.ext hX ne_b3_b4
 have X7_5 := SlT.over X7_4 hX (fun _ => nbo_x7_b4)
 have O7_5 := OwnT.ext O7_4 hX (fun k hk e => nbo_x7_b4 (e ▸ hk))
 clear hX hz E4 B2_4 B3_4 B4_4 X7_4 O7_4
 refine tail_nil ?_
 refine wp_ret ?_
 refine res_one (V := Dg.val (((St.first 2).takes ([(a).a, (a).b, (a).c, (a).d] ++ [(b).a, (b).b, (b).c, (b).d])).out)) rfl D4 (ResIs.cell s4_4 B4_5 row_24 rfl rfl) ?_
 exact ⟨rfl, E5⟩

theorem pairR (a b : Dg) (w0 : World) :
    Gives Tryd.prog 23 #[Dg.val (a), Dg.val (b)] w0 (Pr.ex (Dg.val (pair a b))) := by
 refine enter (N := 20) Tryd.func23 rfl rfl ?_
 intro a0 N0 D0 hA
 have s0_0 : get a0 0 = Dg.val (a) := hA 0 _ rfl
 have s1_0 : get a0 1 = Dg.val (b) := hA 1 _ rfl
 clear hA
 have E0 : Ext w0 w0 := Ext.refl w0
 refine wp_seq ?_
 refine Rl [2, 3, 4] [(2, Pr.box' w0.heap.size 24 [w32 (a).a, w32 (a).b, w32 (a).c, w32 (a).d]), (3, Pr.box' w0.heap.size 24 [w32 (b).a, w32 (b).b, w32 (b).c, w32 (b).d]), (4, Pr.box' w0.heap.size 24 [w32 (Dg.zero).a, w32 (Dg.zero).b, w32 (Dg.zero).c, w32 (Dg.zero).d])] 3 N0 D0 ?_ ?_
 refine Ac ?_ (Ac ?_ (Ac ?_ (Az _)))
 refine Ask.fresh rfl rfl ?_
 intro aq wq hNq hO hR hT
 exact does_box (V := Dg.val (a)) (oT hO s0_0 rfl) (fun b w2 he hlo hb => ⟨he, ⟨b, rfl, Nat.le_trans hR.size' hlo, hb⟩, ⟨b, rfl, hlo, hb.lt⟩⟩)
 refine Ask.fresh rfl rfl ?_
 intro aq wq hNq hO hR hT
 exact does_box (V := Dg.val (b)) (oT hO s1_0 rfl) (fun b w2 he hlo hb => ⟨he, ⟨b, rfl, Nat.le_trans hR.size' hlo, hb⟩, ⟨b, rfl, hlo, hb.lt⟩⟩)
 refine Ask.fresh rfl rfl ?_
 intro aq wq hNq hO hR hT
 exact does_alloc zero_24 (fun b w2 he hlo hb => ⟨he, ⟨b, rfl, Nat.le_trans hR.size' hlo, hb⟩, ⟨b, rfl, hlo, hb.lt⟩⟩)
 intro a1 wd1 N1 D1 hO hR hA hU
 obtain ⟨t2, t3, t4, _⟩ := hA
 have E1 := E0.trans hR
 obtain ⟨b2, s2_1, lo_b2, B2_1⟩ := t2
 have fr_b2 : w0.heap.size ≤ b2 := Nat.le_trans E0.size' lo_b2
 obtain ⟨b3, s3_1, lo_b3, B3_1⟩ := t3
 have fr_b3 : w0.heap.size ≤ b3 := Nat.le_trans E0.size' lo_b3
 obtain ⟨b4, s4_1, lo_b4, B4_1⟩ := t4
 have fr_b4 : w0.heap.size ≤ b4 := Nat.le_trans E0.size' lo_b4
 obtain ⟨u0, ⟨u1, ⟨u2, _⟩⟩⟩ := hU
 have ne_b2_b3 : b2 ≠ b3 := fun e => u0 3 (by decide) (by rw [s2_1, s3_1, e])
 have ne_b2_b4 : b2 ≠ b4 := fun e => u0 4 (by decide) (by rw [s2_1, s4_1, e])
 have ne_b3_b4 : b3 ≠ b4 := fun e => u1 4 (by decide) (by rw [s3_1, s4_1, e])
 clear E0 N0 D0 s0_0 s1_0
 refine tail_nil ?_
 refine wp_seq ?_
 refine Ra [5] [(6, Pr.ex (Value.agg #[w32 (2), w32 (0), w32 (0), w32 (0), w32 (0), w32 (0), w32 (0), w32 (0)])), (7, Pr.ex (Dg.val (a))), (8, Pr.ex (Value.agg #[w32 (((⟨(2 : UInt32), 0, 0, 0, 0, 0, 0, 0⟩ : St).take a).a), w32 (((⟨(2 : UInt32), 0, 0, 0, 0, 0, 0, 0⟩ : St).take a).b), w32 (((⟨(2 : UInt32), 0, 0, 0, 0, 0, 0, 0⟩ : St).take a).c), w32 (((⟨(2 : UInt32), 0, 0, 0, 0, 0, 0, 0⟩ : St).take a).d), w32 (((⟨(2 : UInt32), 0, 0, 0, 0, 0, 0, 0⟩ : St).take a).e), w32 (((⟨(2 : UInt32), 0, 0, 0, 0, 0, 0, 0⟩ : St).take a).f), w32 (((⟨(2 : UInt32), 0, 0, 0, 0, 0, 0, 0⟩ : St).take a).g), w32 (((⟨(2 : UInt32), 0, 0, 0, 0, 0, 0, 0⟩ : St).take a).h)])), (9, Pr.ex (Dg.val (b))), (10, Pr.ex (Value.agg #[w32 (((((⟨(2 : UInt32), 0, 0, 0, 0, 0, 0, 0⟩ : St).take a)).take b).a), w32 (((((⟨(2 : UInt32), 0, 0, 0, 0, 0, 0, 0⟩ : St).take a)).take b).b), w32 (((((⟨(2 : UInt32), 0, 0, 0, 0, 0, 0, 0⟩ : St).take a)).take b).c), w32 (((((⟨(2 : UInt32), 0, 0, 0, 0, 0, 0, 0⟩ : St).take a)).take b).d), w32 (((((⟨(2 : UInt32), 0, 0, 0, 0, 0, 0, 0⟩ : St).take a)).take b).e), w32 (((((⟨(2 : UInt32), 0, 0, 0, 0, 0, 0, 0⟩ : St).take a)).take b).f), w32 (((((⟨(2 : UInt32), 0, 0, 0, 0, 0, 0, 0⟩ : St).take a)).take b).g), w32 (((((⟨(2 : UInt32), 0, 0, 0, 0, 0, 0, 0⟩ : St).take a)).take b).h)])), (5, Pr.box' wd1.heap.size 75 [w32 (0), w32 (0), w32 (0), w32 (0), w32 (0), w32 (0), w32 (0), w32 (0)])] 6 mixed N1 D1 ?_ ?_
 refine Ac ?_ (Ac ?_ (Ac ?_ (Ac ?_ (Ac ?_ (Ac ?_ (Az _))))))
 exact Ad fun aq wq _ hO hR hT => does_build (vs := #[(0, w32 (2))]) (V := Value.agg #[w32 (2), w32 (0), w32 (0), w32 (0), w32 (0), w32 (0), w32 (0), w32 (0)]) (parts1 rfl) (by kernel_rfl) eR
 exact Ad fun aq wq _ hO hR hT => does_loadD (o := 0) (n := 4) (mid := [w32 (a).a, w32 (a).b, w32 (a).c, w32 (a).d]) (oT hO s2_1 rfl) (B2_1.ext' hR) rfl rfl (nB rfl) row_24 rfl eR
 exact Ad fun aq wq _ hO hR hT => does_ret (vs := #[Value.agg #[w32 (2), w32 (0), w32 (0), w32 (0), w32 (0), w32 (0), w32 (0), w32 (0)], Dg.val (a)]) call_37 (args2 (hT 6 rfl rfl) (hT 7 rfl rfl)) rfl ((takeR (⟨(2 : UInt32), 0, 0, 0, 0, 0, 0, 0⟩ : St) (a) wq).mono fun v w2 h => ⟨h.2, h.1⟩)
 exact Ad fun aq wq _ hO hR hT => does_loadD (o := 0) (n := 4) (mid := [w32 (b).a, w32 (b).b, w32 (b).c, w32 (b).d]) (oT hO s3_1 rfl) (B3_1.ext' hR) rfl rfl (nB rfl) row_24 rfl eR
 exact Ad fun aq wq _ hO hR hT => does_ret (vs := #[Value.agg #[w32 (((⟨(2 : UInt32), 0, 0, 0, 0, 0, 0, 0⟩ : St).take a).a), w32 (((⟨(2 : UInt32), 0, 0, 0, 0, 0, 0, 0⟩ : St).take a).b), w32 (((⟨(2 : UInt32), 0, 0, 0, 0, 0, 0, 0⟩ : St).take a).c), w32 (((⟨(2 : UInt32), 0, 0, 0, 0, 0, 0, 0⟩ : St).take a).d), w32 (((⟨(2 : UInt32), 0, 0, 0, 0, 0, 0, 0⟩ : St).take a).e), w32 (((⟨(2 : UInt32), 0, 0, 0, 0, 0, 0, 0⟩ : St).take a).f), w32 (((⟨(2 : UInt32), 0, 0, 0, 0, 0, 0, 0⟩ : St).take a).g), w32 (((⟨(2 : UInt32), 0, 0, 0, 0, 0, 0, 0⟩ : St).take a).h)], Dg.val (b)]) call_37 (args2 (hT 8 rfl rfl) (hT 9 rfl rfl)) rfl ((takeR (((⟨(2 : UInt32), 0, 0, 0, 0, 0, 0, 0⟩ : St).take a)) (b) wq).mono fun v w2 h => ⟨h.2, h.1⟩)
 refine Ask.fresh rfl rfl ?_
 intro aq wq hNq hO hR hT
 replace hR := (Ext.drew _).trans hR
 exact does_alloc zero_75 (fun b w2 he hlo hb => ⟨he, ⟨b, rfl, Nat.le_trans hR.size' hlo, hb⟩, ⟨b, rfl, hlo, hb.lt⟩⟩)
 intro a2 wd2 N2 D2 hO hR hA hU
 obtain ⟨_, _, _, _, t10, t5, _⟩ := hA
 have E2 := E1.trans hR
 have s4_2 := oT hO s4_1 rfl
 have B2_2 := B2_1.ext' hR
 have B3_2 := B3_1.ext' hR
 have B4_2 := B4_1.ext' hR
 have s10_2 : get a2 10 = Value.agg #[w32 (((((⟨(2 : UInt32), 0, 0, 0, 0, 0, 0, 0⟩ : St).take a)).take b).a), w32 (((((⟨(2 : UInt32), 0, 0, 0, 0, 0, 0, 0⟩ : St).take a)).take b).b), w32 (((((⟨(2 : UInt32), 0, 0, 0, 0, 0, 0, 0⟩ : St).take a)).take b).c), w32 (((((⟨(2 : UInt32), 0, 0, 0, 0, 0, 0, 0⟩ : St).take a)).take b).d), w32 (((((⟨(2 : UInt32), 0, 0, 0, 0, 0, 0, 0⟩ : St).take a)).take b).e), w32 (((((⟨(2 : UInt32), 0, 0, 0, 0, 0, 0, 0⟩ : St).take a)).take b).f), w32 (((((⟨(2 : UInt32), 0, 0, 0, 0, 0, 0, 0⟩ : St).take a)).take b).g), w32 (((((⟨(2 : UInt32), 0, 0, 0, 0, 0, 0, 0⟩ : St).take a)).take b).h)] := t10
 obtain ⟨b5, s5_2, lo_b5, B5_2⟩ := t5
 have ne_b2_b5 := Hl B2_1 lo_b5
 have ne_b3_b5 := Hl B3_1 lo_b5
 have ne_b4_b5 := Hl B4_1 lo_b5
 have fr_b5 : w0.heap.size ≤ b5 := Nat.le_trans E1.size' lo_b5
 clear E1 N1 D1 s2_1 s3_1 s4_1 B2_1 B3_1 B4_1
 refine tail_none rfl rfl (does_storeD (o := 0) (n := 8) (cs' := [w32 (((((⟨(2 : UInt32), 0, 0, 0, 0, 0, 0, 0⟩ : St).take a)).take b).a), w32 (((((⟨(2 : UInt32), 0, 0, 0, 0, 0, 0, 0⟩ : St).take a)).take b).b), w32 (((((⟨(2 : UInt32), 0, 0, 0, 0, 0, 0, 0⟩ : St).take a)).take b).c), w32 (((((⟨(2 : UInt32), 0, 0, 0, 0, 0, 0, 0⟩ : St).take a)).take b).d), w32 (((((⟨(2 : UInt32), 0, 0, 0, 0, 0, 0, 0⟩ : St).take a)).take b).e), w32 (((((⟨(2 : UInt32), 0, 0, 0, 0, 0, 0, 0⟩ : St).take a)).take b).f), w32 (((((⟨(2 : UInt32), 0, 0, 0, 0, 0, 0, 0⟩ : St).take a)).take b).g), w32 (((((⟨(2 : UInt32), 0, 0, 0, 0, 0, 0, 0⟩ : St).take a)).take b).h)]) (V := Value.agg #[w32 (((((⟨(2 : UInt32), 0, 0, 0, 0, 0, 0, 0⟩ : St).take a)).take b).a), w32 (((((⟨(2 : UInt32), 0, 0, 0, 0, 0, 0, 0⟩ : St).take a)).take b).b), w32 (((((⟨(2 : UInt32), 0, 0, 0, 0, 0, 0, 0⟩ : St).take a)).take b).c), w32 (((((⟨(2 : UInt32), 0, 0, 0, 0, 0, 0, 0⟩ : St).take a)).take b).d), w32 (((((⟨(2 : UInt32), 0, 0, 0, 0, 0, 0, 0⟩ : St).take a)).take b).e), w32 (((((⟨(2 : UInt32), 0, 0, 0, 0, 0, 0, 0⟩ : St).take a)).take b).f), w32 (((((⟨(2 : UInt32), 0, 0, 0, 0, 0, 0, 0⟩ : St).take a)).take b).g), w32 (((((⟨(2 : UInt32), 0, 0, 0, 0, 0, 0, 0⟩ : St).take a)).take b).h)]) s5_2 s10_2 B5_2 (nB rfl) rfl siz_75 rfl rfl (fun wd3 hX hz B5_3 => ?_))
 have E3 := E2.since hX (fun k e => e ▸ fr_b5)
 have B2_3 := B2_2.ext hX ne_b2_b5
 have B3_3 := B3_2.ext hX ne_b3_b5
 have B4_3 := B4_2.ext hX ne_b4_b5
 clear hX hz E2 B2_2 B3_2 B4_2 B5_2
 refine tail_nil ?_
 refine wp_seq ?_
 refine Rl [] [(11, Pr.ex (Value.pointer (some ⟨b5, 0, none⟩))), (12, Pr.ex (w32 (((((⟨(2 : UInt32), 0, 0, 0, 0, 0, 0, 0⟩ : St).take a)).take b).a))), (13, Pr.ex (Value.pointer (some ⟨b5, 1, none⟩))), (14, Pr.ex (w32 (((((⟨(2 : UInt32), 0, 0, 0, 0, 0, 0, 0⟩ : St).take a)).take b).b))), (15, Pr.ex (Value.pointer (some ⟨b5, 2, none⟩))), (16, Pr.ex (w32 (((((⟨(2 : UInt32), 0, 0, 0, 0, 0, 0, 0⟩ : St).take a)).take b).c))), (17, Pr.ex (Value.pointer (some ⟨b5, 3, none⟩))), (18, Pr.ex (w32 (((((⟨(2 : UInt32), 0, 0, 0, 0, 0, 0, 0⟩ : St).take a)).take b).d))), (19, Pr.ex (Dg.val ((⟨((((⟨(2 : UInt32), 0, 0, 0, 0, 0, 0, 0⟩ : St).take a)).take b).a, ((((⟨(2 : UInt32), 0, 0, 0, 0, 0, 0, 0⟩ : St).take a)).take b).b, ((((⟨(2 : UInt32), 0, 0, 0, 0, 0, 0, 0⟩ : St).take a)).take b).c, ((((⟨(2 : UInt32), 0, 0, 0, 0, 0, 0, 0⟩ : St).take a)).take b).d⟩ : Dg))))] 9 N2 D2 ?_ ?_
 refine Ac ?_ (Ac ?_ (Ac ?_ (Ac ?_ (Ac ?_ (Ac ?_ (Ac ?_ (Ac ?_ (Ac ?_ (Az _)))))))))
 exact Ap fun aq wq _ hO hR hT => does_indexArr (k := .i64) (i := 0) (o' := 0) arr_75 (oT hO s5_2 rfl) rfl (by decide) (by decide) rfl eR
 exact Ap fun aq wq _ hO hR hT => does_loadD1 (o := 0) (V := w32 (((((⟨(2 : UInt32), 0, 0, 0, 0, 0, 0, 0⟩ : St).take a)).take b).a)) (hT 11 rfl rfl) (B5_3.ext' hR) rfl one_22 eR
 exact Ap fun aq wq _ hO hR hT => does_indexArr (k := .i64) (i := 1) (o' := 1) arr_75 (oT hO s5_2 rfl) rfl (by decide) (by decide) rfl eR
 exact Ap fun aq wq _ hO hR hT => does_loadD1 (o := 1) (V := w32 (((((⟨(2 : UInt32), 0, 0, 0, 0, 0, 0, 0⟩ : St).take a)).take b).b)) (hT 13 rfl rfl) (B5_3.ext' hR) rfl one_22 eR
 exact Ap fun aq wq _ hO hR hT => does_indexArr (k := .i64) (i := 2) (o' := 2) arr_75 (oT hO s5_2 rfl) rfl (by decide) (by decide) rfl eR
 exact Ap fun aq wq _ hO hR hT => does_loadD1 (o := 2) (V := w32 (((((⟨(2 : UInt32), 0, 0, 0, 0, 0, 0, 0⟩ : St).take a)).take b).c)) (hT 15 rfl rfl) (B5_3.ext' hR) rfl one_22 eR
 exact Ap fun aq wq _ hO hR hT => does_indexArr (k := .i64) (i := 3) (o' := 3) arr_75 (oT hO s5_2 rfl) rfl (by decide) (by decide) rfl eR
 exact Ap fun aq wq _ hO hR hT => does_loadD1 (o := 3) (V := w32 (((((⟨(2 : UInt32), 0, 0, 0, 0, 0, 0, 0⟩ : St).take a)).take b).d)) (hT 17 rfl rfl) (B5_3.ext' hR) rfl one_22 eR
 exact Ap fun aq wq _ hO hR hT => does_build (vs := #[(0, w32 (((((⟨(2 : UInt32), 0, 0, 0, 0, 0, 0, 0⟩ : St).take a)).take b).a)), (1, w32 (((((⟨(2 : UInt32), 0, 0, 0, 0, 0, 0, 0⟩ : St).take a)).take b).b)), (2, w32 (((((⟨(2 : UInt32), 0, 0, 0, 0, 0, 0, 0⟩ : St).take a)).take b).c)), (3, w32 (((((⟨(2 : UInt32), 0, 0, 0, 0, 0, 0, 0⟩ : St).take a)).take b).d))]) (V := Dg.val ((⟨((((⟨(2 : UInt32), 0, 0, 0, 0, 0, 0, 0⟩ : St).take a)).take b).a, ((((⟨(2 : UInt32), 0, 0, 0, 0, 0, 0, 0⟩ : St).take a)).take b).b, ((((⟨(2 : UInt32), 0, 0, 0, 0, 0, 0, 0⟩ : St).take a)).take b).c, ((((⟨(2 : UInt32), 0, 0, 0, 0, 0, 0, 0⟩ : St).take a)).take b).d⟩ : Dg))) (parts4 (hT 12 rfl rfl) (hT 14 rfl rfl) (hT 16 rfl rfl) (hT 18 rfl rfl)) (by kernel_rfl) eR
 intro a4 wd4 N4 D4 hO hR hA hU
 obtain ⟨_, _, _, _, _, _, _, _, t19, _⟩ := hA
 have E4 := E3.trans hR
 have s4_4 := oT hO s4_2 rfl
 have B2_4 := B2_3.ext' hR
 have B3_4 := B3_3.ext' hR
 have B4_4 := B4_3.ext' hR
 have B5_4 := B5_3.ext' hR
 have s19_4 : get a4 19 = Dg.val ((⟨((((⟨(2 : UInt32), 0, 0, 0, 0, 0, 0, 0⟩ : St).take a)).take b).a, ((((⟨(2 : UInt32), 0, 0, 0, 0, 0, 0, 0⟩ : St).take a)).take b).b, ((((⟨(2 : UInt32), 0, 0, 0, 0, 0, 0, 0⟩ : St).take a)).take b).c, ((((⟨(2 : UInt32), 0, 0, 0, 0, 0, 0, 0⟩ : St).take a)).take b).d⟩ : Dg)) := t19
 clear E3 N2 D2 s4_2 s5_2 s10_2 B2_3 B3_3 B4_3 B5_3
 refine tail_none rfl rfl (does_storeD (o := 0) (n := 4) (cs' := [w32 ((⟨((((⟨(2 : UInt32), 0, 0, 0, 0, 0, 0, 0⟩ : St).take a)).take b).a, ((((⟨(2 : UInt32), 0, 0, 0, 0, 0, 0, 0⟩ : St).take a)).take b).b, ((((⟨(2 : UInt32), 0, 0, 0, 0, 0, 0, 0⟩ : St).take a)).take b).c, ((((⟨(2 : UInt32), 0, 0, 0, 0, 0, 0, 0⟩ : St).take a)).take b).d⟩ : Dg)).a, w32 ((⟨((((⟨(2 : UInt32), 0, 0, 0, 0, 0, 0, 0⟩ : St).take a)).take b).a, ((((⟨(2 : UInt32), 0, 0, 0, 0, 0, 0, 0⟩ : St).take a)).take b).b, ((((⟨(2 : UInt32), 0, 0, 0, 0, 0, 0, 0⟩ : St).take a)).take b).c, ((((⟨(2 : UInt32), 0, 0, 0, 0, 0, 0, 0⟩ : St).take a)).take b).d⟩ : Dg)).b, w32 ((⟨((((⟨(2 : UInt32), 0, 0, 0, 0, 0, 0, 0⟩ : St).take a)).take b).a, ((((⟨(2 : UInt32), 0, 0, 0, 0, 0, 0, 0⟩ : St).take a)).take b).b, ((((⟨(2 : UInt32), 0, 0, 0, 0, 0, 0, 0⟩ : St).take a)).take b).c, ((((⟨(2 : UInt32), 0, 0, 0, 0, 0, 0, 0⟩ : St).take a)).take b).d⟩ : Dg)).c, w32 ((⟨((((⟨(2 : UInt32), 0, 0, 0, 0, 0, 0, 0⟩ : St).take a)).take b).a, ((((⟨(2 : UInt32), 0, 0, 0, 0, 0, 0, 0⟩ : St).take a)).take b).b, ((((⟨(2 : UInt32), 0, 0, 0, 0, 0, 0, 0⟩ : St).take a)).take b).c, ((((⟨(2 : UInt32), 0, 0, 0, 0, 0, 0, 0⟩ : St).take a)).take b).d⟩ : Dg)).d]) (V := Dg.val ((⟨((((⟨(2 : UInt32), 0, 0, 0, 0, 0, 0, 0⟩ : St).take a)).take b).a, ((((⟨(2 : UInt32), 0, 0, 0, 0, 0, 0, 0⟩ : St).take a)).take b).b, ((((⟨(2 : UInt32), 0, 0, 0, 0, 0, 0, 0⟩ : St).take a)).take b).c, ((((⟨(2 : UInt32), 0, 0, 0, 0, 0, 0, 0⟩ : St).take a)).take b).d⟩ : Dg))) s4_4 s19_4 B4_4 (nB rfl) rfl siz_24 rfl rfl (fun wd5 hX hz B4_5 => ?_))
 have E5 := E4.since hX (fun k e => e ▸ fr_b4)
 have B2_5 := B2_4.ext hX ne_b2_b4
 have B3_5 := B3_4.ext hX ne_b3_b4
 have B5_5 := B5_4.ext hX ne_b4_b5.symm
 clear hX hz E4 B2_4 B3_4 B4_4 B5_4
 refine tail_nil ?_
 refine wp_ret ?_
 refine res_one (V := Dg.val ((⟨((((⟨(2 : UInt32), 0, 0, 0, 0, 0, 0, 0⟩ : St).take a)).take b).a, ((((⟨(2 : UInt32), 0, 0, 0, 0, 0, 0, 0⟩ : St).take a)).take b).b, ((((⟨(2 : UInt32), 0, 0, 0, 0, 0, 0, 0⟩ : St).take a)).take b).c, ((((⟨(2 : UInt32), 0, 0, 0, 0, 0, 0, 0⟩ : St).take a)).take b).d⟩ : Dg))) rfl D4 (ResIs.cell s4_4 B4_5 row_24 rfl rfl) ?_
 exact ⟨rfl, E5⟩

end Go.Proofs.YtmmghpbncejfiaaDoor
