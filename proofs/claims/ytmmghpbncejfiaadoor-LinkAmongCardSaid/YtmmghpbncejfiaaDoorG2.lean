/- The walks of functions of the program: printed. -/
import Derived.Test.YtmmghpbncejfiaaDoorG1
import Derived.Test.YtmmghpbncejfiaaDoorF0
set_option maxRecDepth 100000
namespace Go.Proofs.YtmmghpbncejfiaaDoor
open Go Go.RowKit Sk Sd
theorem mix (s : St) (w0 : World) (hL : Laid w0) :
    Gives Tryd.prog 55 #[Value.agg #[w32 (s.a), w32 (s.b), w32 (s.c), w32 (s.d), w32 (s.e), w32 (s.f), w32 (s.g), w32 (s.h)]] w0 (Pr.ex (St.val s.mix)) := by
 refine enter (N := 60) Tryd.func55 rfl rfl ?_
 intro a0 N0 D0 hA
 have s0_0 : get a0 0 = Value.agg #[w32 (s.a), w32 (s.b), w32 (s.c), w32 (s.d), w32 (s.e), w32 (s.f), w32 (s.g), w32 (s.h)] := hA 0 _ rfl
 clear hA
 have E0 : Ext w0 w0 := Ext.refl w0
 refine wp_seq ?_
 refine Rl [1, 2] [(1, Pr.box' w0.heap.size 75 [w32 (s.a), w32 (s.b), w32 (s.c), w32 (s.d), w32 (s.e), w32 (s.f), w32 (s.g), w32 (s.h)]), (2, Pr.box' w0.heap.size 75 [w32 (0), w32 (0), w32 (0), w32 (0), w32 (0), w32 (0), w32 (0), w32 (0)])] 2 N0 D0 ?_ ?_
 refine Ac ?_ (Ac ?_ (Az _))
 refine Ask.fresh rfl rfl ?_
 intro aq wq hNq hO hR hT
 exact does_box (V := Value.agg #[w32 (s.a), w32 (s.b), w32 (s.c), w32 (s.d), w32 (s.e), w32 (s.f), w32 (s.g), w32 (s.h)]) (oT hO s0_0 rfl) (fun b w2 he hlo hb => ⟨he, ⟨b, rfl, Nat.le_trans hR.size' hlo, hb⟩, ⟨b, rfl, hlo, hb.lt⟩⟩)
 refine Ask.fresh rfl rfl ?_
 intro aq wq hNq hO hR hT
 exact does_alloc zero_75 (fun b w2 he hlo hb => ⟨he, ⟨b, rfl, Nat.le_trans hR.size' hlo, hb⟩, ⟨b, rfl, hlo, hb.lt⟩⟩)
 intro a1 wd1 N1 D1 hO hR hA hU
 obtain ⟨t1, t2, _⟩ := hA
 have E1 := E0.trans hR
 obtain ⟨b1, s1_1, lo_b1, B1_1⟩ := t1
 have fr_b1 : w0.heap.size ≤ b1 := Nat.le_trans E0.size' lo_b1
 obtain ⟨b2, s2_1, lo_b2, B2_1⟩ := t2
 have fr_b2 : w0.heap.size ≤ b2 := Nat.le_trans E0.size' lo_b2
 obtain ⟨u0, ⟨u1, _⟩⟩ := hU
 have ne_b1_b2 : b1 ≠ b2 := fun e => u0 2 (by decide) (by rw [s1_1, s2_1, e])
 clear E0 N0 D0 s0_0
 refine tail_nil ?_
 refine wp_seq ?_
 refine wp_seq ?_
 refine Rl [] [(8, Pr.ex (w32 (0)))] 1 N1 D1 ?_ ?_
 refine Ac ?_ (Az _)
 exact Ap fun aq wq _ hO hR hT => does_move (V := w32 (0)) rfl eR
 intro a2 wd2 N2 D2 hO hR hA hU
 obtain ⟨t8, _⟩ := hA
 have E2 := E1.trans hR
 have s1_2 := oT hO s1_1 rfl
 have s2_2 := oT hO s2_1 rfl
 have B1_2 := B1_1.ext' hR
 have B2_2 := B2_1.ext' hR
 have s8_2 : get a2 8 = w32 (0) := t8
 clear E1 N1 D1 s1_1 s2_1 B1_1 B2_1
 refine tail_nil ?_
 refine wp_block ?_
 refine loop_g (fun mz az wz => ∃ k : Nat, mz = 8 - k ∧ (az.tmps.size = 60) ∧ (az.defers = []) ∧ (get az 1 = Value.pointer (some ⟨b1, 0, none⟩)) ∧ (get az 2 = Value.pointer (some ⟨b2, 0, none⟩)) ∧ (get az 8 = w32 (UInt32.ofNat k)) ∧ (Ext w0 wz) ∧ (Has wz b1 75 [w32 ((s.rounds k).a), w32 ((s.rounds k).b), w32 ((s.rounds k).c), w32 ((s.rounds k).d), w32 ((s.rounds k).e), w32 ((s.rounds k).f), w32 ((s.rounds k).g), w32 ((s.rounds k).h)]) ∧ (Has wz b2 75 [w32 (0), w32 (0), w32 (0), w32 (0), w32 (0), w32 (0), w32 (0), w32 (0)]) ∧ (k ≤ 8)) ?_ ?_
 exact ⟨_, 0, rfl, N2, D2, s1_2, s2_2, s8_2, E2, B1_2, B2_2, by omega⟩
 rintro mz a3 wd3 ⟨k, rfl, N3, D3, s1_3, s2_3, s8_3, E3, B1_3, B2_3, hk⟩
 refine wp_seq ?_
 refine Rl [] [(9, Pr.ex (Value.bool (decide (((UInt32.ofNat k : UInt32).toNat : Int) < ((8 : UInt32).toNat : Int)))))] 1 N3 D3 ?_ ?_
 refine Ac ?_ (Az _)
 exact Ap fun aq wq _ hO hR hT => does_lss (a := ((UInt32.ofNat k : UInt32).toNat : Int)) (b := ((8 : UInt32).toNat : Int)) (oT hO s8_3 rfl) rfl eR
 intro a4 wd4 N4 D4 hO hR hA hU
 obtain ⟨t9, _⟩ := hA
 have E4 := E3.trans hR
 have s1_4 := oT hO s1_3 rfl
 have s2_4 := oT hO s2_3 rfl
 have s8_4 := oT hO s8_3 rfl
 have B1_4 := B1_3.ext' hR
 have B2_4 := B2_3.ext' hR
 have s9_4 : get a4 9 = Value.bool (decide (((UInt32.ofNat k : UInt32).toNat : Int) < ((8 : UInt32).toNat : Int))) := t9
 clear E3 N3 D3 s1_3 s2_3 s8_3 B1_3 B2_3
 refine tail_nil ?_
 refine wp_seq ?_
 refine wp_if (B := decide (((UInt32.ofNat k : UInt32).toNat : Int) < ((8 : UInt32).toNat : Int))) s9_4 (fun hc0 => ?_) (fun hc0 => ?_)
 have hc0 := of_decide_eq_true hc0
 have hk8 : k < 8 := (u32_lt8 hk).1 hc0
 refine wp_skip ?_
 refine wp_seq ?_
 refine wp_block ?_
 refine wp_seq ?_
 refine Rl [] [(10, Pr.ex (w32 (UInt32.ofNat k))), (3, Pr.ex (w32 (UInt32.ofNat k)))] 2 N4 D4 ?_ ?_
 refine Ac ?_ (Ac ?_ (Az _))
 exact Am s8_4 rfl fun _ => rfl
 exact Ap fun aq wq _ hO hR hT => does_assign (V := w32 (UInt32.ofNat k)) (hT 10 rfl rfl) eR
 intro a5 wd5 N5 D5 hO hR hA hU
 obtain ⟨_, t3, _⟩ := hA
 have E5 := E4.trans hR
 have s1_5 := oT hO s1_4 rfl
 have s2_5 := oT hO s2_4 rfl
 have s8_5 := oT hO s8_4 rfl
 have B1_5 := B1_4.ext' hR
 have B2_5 := B2_4.ext' hR
 have s3_5 : get a5 3 = w32 (UInt32.ofNat k) := t3
 clear E4 N4 D4 s1_4 s2_4 s8_4 s9_4 B1_4 B2_4
 refine tail_nil ?_
 refine wp_seq ?_
 refine Rl [] [(11, Pr.ex (Value.pointer (some ⟨b1, 0, none⟩))), (12, Pr.ex (w32 ((s.rounds k).a))), (13, Pr.ex (w32 (UInt32.ofNat k))), (14, Pr.ex (w32 ((UInt32.ofNat k : UInt32) + (1 : UInt32)))), (15, Pr.ex (w32 ((2654435769 : UInt32) * ((UInt32.ofNat k : UInt32) + (1 : UInt32) : UInt32)))), (16, Pr.ex (w32 (((s.rounds k).a : UInt32) + ((2654435769 : UInt32) * ((UInt32.ofNat k : UInt32) + (1 : UInt32) : UInt32) : UInt32)))), (17, Pr.ex (Value.pointer (some ⟨b1, 0, none⟩)))] 7 N5 D5 ?_ ?_
 refine Ac ?_ (Ac ?_ (Ac ?_ (Ac ?_ (Ac ?_ (Ac ?_ (Ac ?_ (Az _)))))))
 exact Ap fun aq wq _ hO hR hT => does_indexArr (k := .i64) (i := 0) (o' := 0) arr_75 (oT hO s1_5 rfl) rfl (by decide) (by decide) rfl eR
 exact Ap fun aq wq _ hO hR hT => does_loadD1 (o := 0) (V := w32 ((s.rounds k).a)) (hT 11 rfl rfl) (B1_5.ext' hR) rfl one_22 eR
 exact Am s3_5 rfl fun _ => rfl
 exact Ap fun aq wq _ hO hR hT => does_add32 (a := (UInt32.ofNat k : UInt32)) (b := (1 : UInt32)) (hT 13 rfl rfl) rfl eR
 exact Ap fun aq wq _ hO hR hT => does_mul32 (a := (2654435769 : UInt32)) (b := ((UInt32.ofNat k : UInt32) + (1 : UInt32) : UInt32)) rfl (hT 14 rfl rfl) eR
 exact Ap fun aq wq _ hO hR hT => does_add32 (a := ((s.rounds k).a : UInt32)) (b := ((2654435769 : UInt32) * ((UInt32.ofNat k : UInt32) + (1 : UInt32) : UInt32) : UInt32)) (hT 12 rfl rfl) (hT 15 rfl rfl) eR
 exact Ap fun aq wq _ hO hR hT => does_indexArr (k := .i64) (i := 0) (o' := 0) arr_75 (oT hO s1_5 rfl) rfl (by decide) (by decide) rfl eR
 intro a6 wd6 N6 D6 hO hR hA hU
 obtain ⟨_, _, _, _, _, t16, t17, _⟩ := hA
 have E6 := E5.trans hR
 have s1_6 := oT hO s1_5 rfl
 have s2_6 := oT hO s2_5 rfl
 have s8_6 := oT hO s8_5 rfl
 have B1_6 := B1_5.ext' hR
 have B2_6 := B2_5.ext' hR
 have s16_6 : get a6 16 = w32 (((s.rounds k).a : UInt32) + ((2654435769 : UInt32) * ((UInt32.ofNat k : UInt32) + (1 : UInt32) : UInt32) : UInt32)) := t16
 have s17_6 : get a6 17 = Value.pointer (some ⟨b1, 0, none⟩) := t17
 clear E5 N5 D5 s1_5 s2_5 s3_5 s8_5 B1_5 B2_5
 refine tail_none rfl rfl (does_storeD (o := 0) (n := 1) (cs' := [w32 (((s.rounds k).a : UInt32) + ((2654435769 : UInt32) * ((UInt32.ofNat k : UInt32) + (1 : UInt32) : UInt32) : UInt32)), w32 ((s.rounds k).b), w32 ((s.rounds k).c), w32 ((s.rounds k).d), w32 ((s.rounds k).e), w32 ((s.rounds k).f), w32 ((s.rounds k).g), w32 ((s.rounds k).h)]) (V := w32 (((s.rounds k).a : UInt32) + ((2654435769 : UInt32) * ((UInt32.ofNat k : UInt32) + (1 : UInt32) : UInt32) : UInt32))) s17_6 s16_6 B1_6 (nB rfl) rfl siz_22 rfl rfl (fun wd7 hX hz B1_7 => ?_))
 have E7 := E6.since hX (fun k e => e ▸ fr_b1)
 have B2_7 := B2_6.ext hX ne_b1_b2.symm
 clear hX hz E6 B1_6 B2_6
 obtain ⟨v8, hv8⟩ : ∃ v : UInt32, ((s.rounds k).a : UInt32) + ((2654435769 : UInt32) * ((UInt32.ofNat k : UInt32) + (1 : UInt32) : UInt32) : UInt32) = v := ⟨_, rfl⟩
 rw [hv8] at B1_7
 refine tail_nil ?_
 refine wp_seq ?_
 refine wp_seq ?_
 refine Rl [] [(18, Pr.ex (Value.agg #[i64 ((7 : Nat) : Int), i64 ((9 : Nat) : Int), i64 ((13 : Nat) : Int), i64 ((18 : Nat) : Int)])), (19, Pr.ex (i64 ((0 : Nat) : Int)))] 2 N6 D6 ?_ ?_
 refine Ac ?_ (Ac ?_ (Az _))
 exact Ap fun aq wq _ hO hR hT => does_loadP (lo := 0) (hi := 0) (cs := [i64 ((7 : Nat) : Int), i64 ((9 : Nat) : Int), i64 ((13 : Nat) : Int), i64 ((18 : Nat) : Int)]) ⟨0, 0, rfl, Nat.zero_le _, .inl rfl, (hL.ext (E7.trans hR))⟩ row_113 rfl eR
 exact Ap fun aq wq _ hO hR hT => does_move (V := i64 ((0 : Nat) : Int)) rfl eR
 intro a9 wd9 N9 D9 hO hR hA hU
 obtain ⟨t18, t19, _⟩ := hA
 have E9 := E7.trans hR
 have s1_9 := oT hO s1_6 rfl
 have s2_9 := oT hO s2_6 rfl
 have s8_9 := oT hO s8_6 rfl
 have B1_9 := B1_7.ext' hR
 have B2_9 := B2_7.ext' hR
 have s18_9 : get a9 18 = Value.agg #[i64 ((7 : Nat) : Int), i64 ((9 : Nat) : Int), i64 ((13 : Nat) : Int), i64 ((18 : Nat) : Int)] := t18
 have s19_9 : get a9 19 = i64 ((0 : Nat) : Int) := t19
 clear E7 N6 D6 s1_6 s2_6 s8_6 s16_6 s17_6 B1_7 B2_7
 refine tail_nil ?_
 refine wp_block ?_
 refine loop_rounds 5 ?_
 refine round_step ?_
 refine wp_seq ?_
 refine Rl [] [(20, Pr.ex (Value.bool (true)))] 1 N9 D9 ?_ ?_
 refine Ac ?_ (Az _)
 exact Ap fun aq wq _ hO hR hT => does_lss (a := ((0 : Nat) : Int)) (b := ((4 : Nat) : Int)) (oT hO s19_9 rfl) rfl eR
 intro a10 wd10 N10 D10 hO hR hA hU
 obtain ⟨t20, _⟩ := hA
 have E10 := E9.trans hR
 have s1_10 := oT hO s1_9 rfl
 have s2_10 := oT hO s2_9 rfl
 have s8_10 := oT hO s8_9 rfl
 have s18_10 := oT hO s18_9 rfl
 have s19_10 := oT hO s19_9 rfl
 have B1_10 := B1_9.ext' hR
 have B2_10 := B2_9.ext' hR
 have s20_10 : get a10 20 = Value.bool (true) := t20
 clear E9 N9 D9 s1_9 s2_9 s8_9 s18_9 s19_9 B1_9 B2_9
 refine tail_nil ?_
 refine wp_seq ?_
 refine wp_ifT s20_10 ?_
 refine wp_skip ?_
 refine wp_seq ?_
 refine wp_block ?_
 refine wp_seq ?_
 refine Rl [] [(21, Pr.ex (i64 ((0 : Nat) : Int))), (22, Pr.ex (i64 ((7 : Nat) : Int))), (4, Pr.ex (i64 ((0 : Nat) : Int))), (5, Pr.ex (i64 ((7 : Nat) : Int)))] 4 N10 D10 ?_ ?_
 refine Ac ?_ (Ac ?_ (Ac ?_ (Ac ?_ (Az _))))
 exact Am s19_10 rfl fun _ => rfl
 exact Ap fun aq wq _ hO hR hT => does_indexArrV (cs := [i64 ((7 : Nat) : Int), i64 ((9 : Nat) : Int), i64 ((13 : Nat) : Int), i64 ((18 : Nat) : Int)]) (k := .i64) (i := 0) (V := i64 ((7 : Nat) : Int)) arr_113 one_3 (oT hO s18_10 rfl) (oT hO s19_10 rfl) (by decide) (by decide) rfl eR
 exact Ap fun aq wq _ hO hR hT => does_assign (V := i64 ((0 : Nat) : Int)) (hT 21 rfl rfl) eR
 exact Ap fun aq wq _ hO hR hT => does_assign (V := i64 ((7 : Nat) : Int)) (hT 22 rfl rfl) eR
 intro a11 wd11 N11 D11 hO hR hA hU
 obtain ⟨_, _, t4, t5, _⟩ := hA
 have E11 := E10.trans hR
 have s1_11 := oT hO s1_10 rfl
 have s2_11 := oT hO s2_10 rfl
 have s8_11 := oT hO s8_10 rfl
 have s18_11 := oT hO s18_10 rfl
 have s19_11 := oT hO s19_10 rfl
 have B1_11 := B1_10.ext' hR
 have B2_11 := B2_10.ext' hR
 have s4_11 : get a11 4 = i64 ((0 : Nat) : Int) := t4
 have s5_11 : get a11 5 = i64 ((7 : Nat) : Int) := t5
 clear E10 N10 D10 s1_10 s2_10 s8_10 s18_10 s19_10 s20_10 B1_10 B2_10
 refine tail_nil ?_
 refine wp_seq ?_
 refine Ra [] [(23, Pr.ex (i64 ((0 : Nat) : Int))), (24, Pr.ex (Value.pointer (some ⟨b1, 0, none⟩))), (25, Pr.ex (w32 (v8))), (26, Pr.ex (i64 ((0 : Nat) : Int))), (27, Pr.ex (i64 ((4 : Nat) : Int))), (28, Pr.ex (Value.pointer (some ⟨b1, 4, none⟩))), (29, Pr.ex (w32 ((s.rounds k).e))), (30, Pr.ex (w32 ((v8 : UInt32) + ((s.rounds k).e : UInt32)))), (31, Pr.ex (Value.pointer (some ⟨b1, 0, none⟩)))] 9 mixed N11 D11 ?_ ?_
 refine Ac ?_ (Ac ?_ (Ac ?_ (Ac ?_ (Ac ?_ (Ac ?_ (Ac ?_ (Ac ?_ (Ac ?_ (Az _)))))))))
 exact Am s4_11 rfl fun _ => rfl
 exact Ad fun aq wq _ hO hR hT => does_indexArr (k := .i64) (i := 0) (o' := 0) arr_75 (oT hO s1_11 rfl) (hT 23 rfl rfl) (by decide) (by decide) rfl eR
 exact Ad fun aq wq _ hO hR hT => does_loadD1 (o := 0) (V := w32 (v8)) (hT 24 rfl rfl) (B1_11.ext' hR) rfl one_22 eR
 exact Am s4_11 rfl fun _ => rfl
 exact Ad fun aq wq _ hO hR hT => does_add (a := ((0 : Nat) : Int)) (b := ((4 : Nat) : Int)) (r := ((4 : Nat) : Int)) (hT 26 rfl rfl) rfl (by decide) (by decide) (by decide) eR
 exact Ad fun aq wq _ hO hR hT => does_indexArr (k := .i64) (i := 4) (o' := 4) arr_75 (oT hO s1_11 rfl) (hT 27 rfl rfl) (by decide) (by decide) rfl eR
 exact Ad fun aq wq _ hO hR hT => does_loadD1 (o := 4) (V := w32 ((s.rounds k).e)) (hT 28 rfl rfl) (B1_11.ext' hR) rfl one_22 eR
 exact Ad fun aq wq _ hO hR hT => does_add32 (a := (v8 : UInt32)) (b := ((s.rounds k).e : UInt32)) (hT 25 rfl rfl) (hT 29 rfl rfl) eR
 exact Ad fun aq wq _ hO hR hT => does_indexArr (k := .i64) (i := 0) (o' := 0) arr_75 (oT hO s1_11 rfl) (hT 23 rfl rfl) (by decide) (by decide) rfl eR
 intro a12 wd12 N12 D12 hO hR hA hU
 obtain ⟨_, _, _, _, _, _, _, t30, t31, _⟩ := hA
 have E12 := E11.trans hR
 have s1_12 := oT hO s1_11 rfl
 have s2_12 := oT hO s2_11 rfl
 have s4_12 := oT hO s4_11 rfl
 have s5_12 := oT hO s5_11 rfl
 have s8_12 := oT hO s8_11 rfl
 have s18_12 := oT hO s18_11 rfl
 have s19_12 := oT hO s19_11 rfl
 have B1_12 := B1_11.ext' hR
 have B2_12 := B2_11.ext' hR
 have s30_12 : get a12 30 = w32 ((v8 : UInt32) + ((s.rounds k).e : UInt32)) := t30
 have s31_12 : get a12 31 = Value.pointer (some ⟨b1, 0, none⟩) := t31
 clear E11 N11 D11 s1_11 s2_11 s4_11 s5_11 s8_11 s18_11 s19_11 B1_11 B2_11
 refine tail_none rfl rfl (does_storeD (o := 0) (n := 1) (cs' := [w32 ((v8 : UInt32) + ((s.rounds k).e : UInt32)), w32 ((s.rounds k).b), w32 ((s.rounds k).c), w32 ((s.rounds k).d), w32 ((s.rounds k).e), w32 ((s.rounds k).f), w32 ((s.rounds k).g), w32 ((s.rounds k).h)]) (V := w32 ((v8 : UInt32) + ((s.rounds k).e : UInt32))) s31_12 s30_12 B1_12 (nB rfl) rfl siz_22 rfl rfl (fun wd13 hX hz B1_13 => ?_))
 have E13 := E12.since hX (fun k e => e ▸ fr_b1)
 have B2_13 := B2_12.ext hX ne_b1_b2.symm
 clear hX hz E12 B1_12 B2_12
 obtain ⟨v14, hv14⟩ : ∃ v : UInt32, (v8 : UInt32) + ((s.rounds k).e : UInt32) = v := ⟨_, rfl⟩
 rw [hv14] at B1_13
 refine tail_nil ?_
 refine Ra [] [(32, Pr.ex (i64 ((0 : Nat) : Int))), (33, Pr.ex (i64 ((4 : Nat) : Int))), (34, Pr.ex (i64 ((0 : Nat) : Int))), (35, Pr.ex (i64 ((4 : Nat) : Int))), (36, Pr.ex (Value.pointer (some ⟨b1, 4, none⟩))), (37, Pr.ex (w32 ((s.rounds k).e))), (38, Pr.ex (i64 ((0 : Nat) : Int))), (39, Pr.ex (Value.pointer (some ⟨b1, 0, none⟩))), (40, Pr.ex (w32 (v14))), (41, Pr.ex (w32 (((s.rounds k).e : UInt32) ^^^ (v14 : UInt32)))), (42, Pr.ex (i64 ((7 : Nat) : Int))), (43, Pr.ex (w32 (rot (((s.rounds k).e : UInt32) ^^^ (v14 : UInt32)) 7))), (44, Pr.ex (Value.pointer (some ⟨b1, 4, none⟩)))] 13 mixed N12 D12 ?_ ?_
 refine Ac ?_ (Ac ?_ (Ac ?_ (Ac ?_ (Ac ?_ (Ac ?_ (Ac ?_ (Ac ?_ (Ac ?_ (Ac ?_ (Ac ?_ (Ac ?_ (Ac ?_ (Az _)))))))))))))
 exact Am s4_12 rfl fun _ => rfl
 exact Ad fun aq wq _ hO hR hT => does_add (a := ((0 : Nat) : Int)) (b := ((4 : Nat) : Int)) (r := ((4 : Nat) : Int)) (hT 32 rfl rfl) rfl (by decide) (by decide) (by decide) eR
 exact Am s4_12 rfl fun _ => rfl
 exact Ad fun aq wq _ hO hR hT => does_add (a := ((0 : Nat) : Int)) (b := ((4 : Nat) : Int)) (r := ((4 : Nat) : Int)) (hT 34 rfl rfl) rfl (by decide) (by decide) (by decide) eR
 exact Ad fun aq wq _ hO hR hT => does_indexArr (k := .i64) (i := 4) (o' := 4) arr_75 (oT hO s1_12 rfl) (hT 35 rfl rfl) (by decide) (by decide) rfl eR
 exact Ad fun aq wq _ hO hR hT => does_loadD1 (o := 4) (V := w32 ((s.rounds k).e)) (hT 36 rfl rfl) (B1_13.ext' hR) rfl one_22 eR
 exact Am s4_12 rfl fun _ => rfl
 exact Ad fun aq wq _ hO hR hT => does_indexArr (k := .i64) (i := 0) (o' := 0) arr_75 (oT hO s1_12 rfl) (hT 38 rfl rfl) (by decide) (by decide) rfl eR
 exact Ad fun aq wq _ hO hR hT => does_loadD1 (o := 0) (V := w32 (v14)) (hT 39 rfl rfl) (B1_13.ext' hR) rfl one_22 eR
 exact Ad fun aq wq _ hO hR hT => does_xor32 (a := ((s.rounds k).e : UInt32)) (b := (v14 : UInt32)) (hT 37 rfl rfl) (hT 40 rfl rfl) eR
 exact Am s5_12 rfl fun _ => rfl
 exact Ad fun aq wq _ hO hR hT => does_ret (vs := #[w32 (((s.rounds k).e : UInt32) ^^^ (v14 : UInt32)), i64 ((7 : Nat) : Int)]) call_81 (args2 (hT 41 rfl rfl) (hT 42 rfl rfl)) rfl ((turn (((s.rounds k).e : UInt32) ^^^ (v14 : UInt32)) (7) wq (by decide)).mono fun v w2 h => ⟨h.2, h.1⟩)
 exact Ad fun aq wq _ hO hR hT => does_indexArr (k := .i64) (i := 4) (o' := 4) arr_75 (oT hO s1_12 rfl) (hT 33 rfl rfl) (by decide) (by decide) rfl eR
 intro a15 wd15 N15 D15 hO hR hA hU
 obtain ⟨_, _, _, _, _, _, _, _, _, _, _, t43, t44, _⟩ := hA
 have E15 := E13.trans hR
 have s1_15 := oT hO s1_12 rfl
 have s2_15 := oT hO s2_12 rfl
 have s8_15 := oT hO s8_12 rfl
 have s18_15 := oT hO s18_12 rfl
 have s19_15 := oT hO s19_12 rfl
 have B1_15 := B1_13.ext' hR
 have B2_15 := B2_13.ext' hR
 have s43_15 : get a15 43 = w32 (rot (((s.rounds k).e : UInt32) ^^^ (v14 : UInt32)) 7) := t43
 have s44_15 : get a15 44 = Value.pointer (some ⟨b1, 4, none⟩) := t44
 clear E13 N12 D12 s1_12 s2_12 s4_12 s5_12 s8_12 s18_12 s19_12 s30_12 s31_12 B1_13 B2_13
 refine tail_none rfl rfl (does_storeD (o := 4) (n := 1) (cs' := [w32 (v14), w32 ((s.rounds k).b), w32 ((s.rounds k).c), w32 ((s.rounds k).d), w32 (rot (((s.rounds k).e : UInt32) ^^^ (v14 : UInt32)) 7), w32 ((s.rounds k).f), w32 ((s.rounds k).g), w32 ((s.rounds k).h)]) (V := w32 (rot (((s.rounds k).e : UInt32) ^^^ (v14 : UInt32)) 7)) s44_15 s43_15 B1_15 (nB rfl) rfl siz_22 rfl rfl (fun wd16 hX hz B1_16 => ?_))
 have E16 := E15.since hX (fun k e => e ▸ fr_b1)
 have B2_16 := B2_15.ext hX ne_b1_b2.symm
 clear hX hz E15 B1_15 B2_15
 obtain ⟨v17, hv17⟩ : ∃ v : UInt32, rot (((s.rounds k).e : UInt32) ^^^ (v14 : UInt32)) 7 = v := ⟨_, rfl⟩
 rw [hv17] at B1_16
 refine tail_nil ?_
 refine Rl [] [(45, Pr.ex (i64 ((1 : Nat) : Int)))] 1 N15 D15 ?_ ?_
 refine Ac ?_ (Az _)
 exact Ap fun aq wq _ hO hR hT => does_add (a := ((0 : Nat) : Int)) (b := ((1 : Nat) : Int)) (r := ((1 : Nat) : Int)) (oT hO s19_15 rfl) rfl (by decide) (by decide) (by decide) eR
 intro a18 wd18 N18 D18 hO hR hA hU
 obtain ⟨t45, _⟩ := hA
 have E18 := E16.trans hR
 have s1_18 := oT hO s1_15 rfl
 have s2_18 := oT hO s2_15 rfl
 have s8_18 := oT hO s8_15 rfl
 have s18_18 := oT hO s18_15 rfl
 have s19_18 := oT hO s19_15 rfl
 have B1_18 := B1_16.ext' hR
 have B2_18 := B2_16.ext' hR
 have s45_18 : get a18 45 = i64 ((1 : Nat) : Int) := t45
 clear E16 N15 D15 s1_15 s2_15 s8_15 s18_15 s19_15 s43_15 s44_15 B1_16 B2_16
 refine tail_put rfl rfl N18 D18 (by decide) (does_move (V := i64 ((1 : Nat) : Int)) s45_18 (fun a19 N19 D19 hv hO => ?_))
 have s19_19 := hv
 have s1_19 := oT hO s1_18 rfl
 have s2_19 := oT hO s2_18 rfl
 have s8_19 := oT hO s8_18 rfl
 have s18_19 := oT hO s18_18 rfl
 clear hO hv N18 D18 s1_18 s2_18 s8_18 s18_18 s45_18 s19_18
 refine tail_nil ?_
 refine round_step ?_
 refine wp_seq ?_
 refine Rl [] [(20, Pr.ex (Value.bool (true)))] 1 N19 D19 ?_ ?_
 refine Ac ?_ (Az _)
 exact Ap fun aq wq _ hO hR hT => does_lss (a := ((1 : Nat) : Int)) (b := ((4 : Nat) : Int)) (oT hO s19_19 rfl) rfl eR
 intro a20 wd20 N20 D20 hO hR hA hU
 obtain ⟨t20, _⟩ := hA
 have E20 := E18.trans hR
 have s1_20 := oT hO s1_19 rfl
 have s2_20 := oT hO s2_19 rfl
 have s8_20 := oT hO s8_19 rfl
 have s18_20 := oT hO s18_19 rfl
 have s19_20 := oT hO s19_19 rfl
 have B1_20 := B1_18.ext' hR
 have B2_20 := B2_18.ext' hR
 have s20_20 : get a20 20 = Value.bool (true) := t20
 clear E18 N19 D19 s1_19 s2_19 s8_19 s18_19 s19_19 B1_18 B2_18
 refine tail_nil ?_
 refine wp_seq ?_
 refine wp_ifT s20_20 ?_
 refine wp_skip ?_
 refine wp_seq ?_
 refine wp_block ?_
 refine wp_seq ?_
 refine Rl [] [(21, Pr.ex (i64 ((1 : Nat) : Int))), (22, Pr.ex (i64 ((9 : Nat) : Int))), (4, Pr.ex (i64 ((1 : Nat) : Int))), (5, Pr.ex (i64 ((9 : Nat) : Int)))] 4 N20 D20 ?_ ?_
 refine Ac ?_ (Ac ?_ (Ac ?_ (Ac ?_ (Az _))))
 exact Am s19_20 rfl fun _ => rfl
 exact Ap fun aq wq _ hO hR hT => does_indexArrV (cs := [i64 ((7 : Nat) : Int), i64 ((9 : Nat) : Int), i64 ((13 : Nat) : Int), i64 ((18 : Nat) : Int)]) (k := .i64) (i := 1) (V := i64 ((9 : Nat) : Int)) arr_113 one_3 (oT hO s18_20 rfl) (oT hO s19_20 rfl) (by decide) (by decide) rfl eR
 exact Ap fun aq wq _ hO hR hT => does_assign (V := i64 ((1 : Nat) : Int)) (hT 21 rfl rfl) eR
 exact Ap fun aq wq _ hO hR hT => does_assign (V := i64 ((9 : Nat) : Int)) (hT 22 rfl rfl) eR
 intro a21 wd21 N21 D21 hO hR hA hU
 obtain ⟨_, _, t4, t5, _⟩ := hA
 have E21 := E20.trans hR
 have s1_21 := oT hO s1_20 rfl
 have s2_21 := oT hO s2_20 rfl
 have s8_21 := oT hO s8_20 rfl
 have s18_21 := oT hO s18_20 rfl
 have s19_21 := oT hO s19_20 rfl
 have B1_21 := B1_20.ext' hR
 have B2_21 := B2_20.ext' hR
 have s4_21 : get a21 4 = i64 ((1 : Nat) : Int) := t4
 have s5_21 : get a21 5 = i64 ((9 : Nat) : Int) := t5
 clear E20 N20 D20 s1_20 s2_20 s8_20 s18_20 s19_20 s20_20 B1_20 B2_20
 refine tail_nil ?_
 refine wp_seq ?_
 refine Ra [] [(23, Pr.ex (i64 ((1 : Nat) : Int))), (24, Pr.ex (Value.pointer (some ⟨b1, 1, none⟩))), (25, Pr.ex (w32 ((s.rounds k).b))), (26, Pr.ex (i64 ((1 : Nat) : Int))), (27, Pr.ex (i64 ((5 : Nat) : Int))), (28, Pr.ex (Value.pointer (some ⟨b1, 5, none⟩))), (29, Pr.ex (w32 ((s.rounds k).f))), (30, Pr.ex (w32 (((s.rounds k).b : UInt32) + ((s.rounds k).f : UInt32)))), (31, Pr.ex (Value.pointer (some ⟨b1, 1, none⟩)))] 9 mixed N21 D21 ?_ ?_
 refine Ac ?_ (Ac ?_ (Ac ?_ (Ac ?_ (Ac ?_ (Ac ?_ (Ac ?_ (Ac ?_ (Ac ?_ (Az _)))))))))
 exact Am s4_21 rfl fun _ => rfl
 exact Ad fun aq wq _ hO hR hT => does_indexArr (k := .i64) (i := 1) (o' := 1) arr_75 (oT hO s1_21 rfl) (hT 23 rfl rfl) (by decide) (by decide) rfl eR
 exact Ad fun aq wq _ hO hR hT => does_loadD1 (o := 1) (V := w32 ((s.rounds k).b)) (hT 24 rfl rfl) (B1_21.ext' hR) rfl one_22 eR
 exact Am s4_21 rfl fun _ => rfl
 exact Ad fun aq wq _ hO hR hT => does_add (a := ((1 : Nat) : Int)) (b := ((4 : Nat) : Int)) (r := ((5 : Nat) : Int)) (hT 26 rfl rfl) rfl (by decide) (by decide) (by decide) eR
 exact Ad fun aq wq _ hO hR hT => does_indexArr (k := .i64) (i := 5) (o' := 5) arr_75 (oT hO s1_21 rfl) (hT 27 rfl rfl) (by decide) (by decide) rfl eR
 exact Ad fun aq wq _ hO hR hT => does_loadD1 (o := 5) (V := w32 ((s.rounds k).f)) (hT 28 rfl rfl) (B1_21.ext' hR) rfl one_22 eR
 exact Ad fun aq wq _ hO hR hT => does_add32 (a := ((s.rounds k).b : UInt32)) (b := ((s.rounds k).f : UInt32)) (hT 25 rfl rfl) (hT 29 rfl rfl) eR
 exact Ad fun aq wq _ hO hR hT => does_indexArr (k := .i64) (i := 1) (o' := 1) arr_75 (oT hO s1_21 rfl) (hT 23 rfl rfl) (by decide) (by decide) rfl eR
 intro a22 wd22 N22 D22 hO hR hA hU
 obtain ⟨_, _, _, _, _, _, _, t30, t31, _⟩ := hA
 have E22 := E21.trans hR
 have s1_22 := oT hO s1_21 rfl
 have s2_22 := oT hO s2_21 rfl
 have s4_22 := oT hO s4_21 rfl
 have s5_22 := oT hO s5_21 rfl
 have s8_22 := oT hO s8_21 rfl
 have s18_22 := oT hO s18_21 rfl
 have s19_22 := oT hO s19_21 rfl
 have B1_22 := B1_21.ext' hR
 have B2_22 := B2_21.ext' hR
 have s30_22 : get a22 30 = w32 (((s.rounds k).b : UInt32) + ((s.rounds k).f : UInt32)) := t30
 have s31_22 : get a22 31 = Value.pointer (some ⟨b1, 1, none⟩) := t31
 clear E21 N21 D21 s1_21 s2_21 s4_21 s5_21 s8_21 s18_21 s19_21 B1_21 B2_21
 refine tail_none rfl rfl (does_storeD (o := 1) (n := 1) (cs' := [w32 (v14), w32 (((s.rounds k).b : UInt32) + ((s.rounds k).f : UInt32)), w32 ((s.rounds k).c), w32 ((s.rounds k).d), w32 (v17), w32 ((s.rounds k).f), w32 ((s.rounds k).g), w32 ((s.rounds k).h)]) (V := w32 (((s.rounds k).b : UInt32) + ((s.rounds k).f : UInt32))) s31_22 s30_22 B1_22 (nB rfl) rfl siz_22 rfl rfl (fun wd23 hX hz B1_23 => ?_))
 have E23 := E22.since hX (fun k e => e ▸ fr_b1)
 have B2_23 := B2_22.ext hX ne_b1_b2.symm
 clear hX hz E22 B1_22 B2_22
 obtain ⟨v24, hv24⟩ : ∃ v : UInt32, ((s.rounds k).b : UInt32) + ((s.rounds k).f : UInt32) = v := ⟨_, rfl⟩
 rw [hv24] at B1_23
 refine tail_nil ?_
 refine Ra [] [(32, Pr.ex (i64 ((1 : Nat) : Int))), (33, Pr.ex (i64 ((5 : Nat) : Int))), (34, Pr.ex (i64 ((1 : Nat) : Int))), (35, Pr.ex (i64 ((5 : Nat) : Int))), (36, Pr.ex (Value.pointer (some ⟨b1, 5, none⟩))), (37, Pr.ex (w32 ((s.rounds k).f))), (38, Pr.ex (i64 ((1 : Nat) : Int))), (39, Pr.ex (Value.pointer (some ⟨b1, 1, none⟩))), (40, Pr.ex (w32 (v24))), (41, Pr.ex (w32 (((s.rounds k).f : UInt32) ^^^ (v24 : UInt32)))), (42, Pr.ex (i64 ((9 : Nat) : Int))), (43, Pr.ex (w32 (rot (((s.rounds k).f : UInt32) ^^^ (v24 : UInt32)) 9))), (44, Pr.ex (Value.pointer (some ⟨b1, 5, none⟩)))] 13 mixed N22 D22 ?_ ?_
 refine Ac ?_ (Ac ?_ (Ac ?_ (Ac ?_ (Ac ?_ (Ac ?_ (Ac ?_ (Ac ?_ (Ac ?_ (Ac ?_ (Ac ?_ (Ac ?_ (Ac ?_ (Az _)))))))))))))
 exact Am s4_22 rfl fun _ => rfl
 exact Ad fun aq wq _ hO hR hT => does_add (a := ((1 : Nat) : Int)) (b := ((4 : Nat) : Int)) (r := ((5 : Nat) : Int)) (hT 32 rfl rfl) rfl (by decide) (by decide) (by decide) eR
 exact Am s4_22 rfl fun _ => rfl
 exact Ad fun aq wq _ hO hR hT => does_add (a := ((1 : Nat) : Int)) (b := ((4 : Nat) : Int)) (r := ((5 : Nat) : Int)) (hT 34 rfl rfl) rfl (by decide) (by decide) (by decide) eR
 exact Ad fun aq wq _ hO hR hT => does_indexArr (k := .i64) (i := 5) (o' := 5) arr_75 (oT hO s1_22 rfl) (hT 35 rfl rfl) (by decide) (by decide) rfl eR
 exact Ad fun aq wq _ hO hR hT => does_loadD1 (o := 5) (V := w32 ((s.rounds k).f)) (hT 36 rfl rfl) (B1_23.ext' hR) rfl one_22 eR
 exact Am s4_22 rfl fun _ => rfl
 exact Ad fun aq wq _ hO hR hT => does_indexArr (k := .i64) (i := 1) (o' := 1) arr_75 (oT hO s1_22 rfl) (hT 38 rfl rfl) (by decide) (by decide) rfl eR
 exact Ad fun aq wq _ hO hR hT => does_loadD1 (o := 1) (V := w32 (v24)) (hT 39 rfl rfl) (B1_23.ext' hR) rfl one_22 eR
 exact Ad fun aq wq _ hO hR hT => does_xor32 (a := ((s.rounds k).f : UInt32)) (b := (v24 : UInt32)) (hT 37 rfl rfl) (hT 40 rfl rfl) eR
 exact Am s5_22 rfl fun _ => rfl
 exact Ad fun aq wq _ hO hR hT => does_ret (vs := #[w32 (((s.rounds k).f : UInt32) ^^^ (v24 : UInt32)), i64 ((9 : Nat) : Int)]) call_81 (args2 (hT 41 rfl rfl) (hT 42 rfl rfl)) rfl ((turn (((s.rounds k).f : UInt32) ^^^ (v24 : UInt32)) (9) wq (by decide)).mono fun v w2 h => ⟨h.2, h.1⟩)
 exact Ad fun aq wq _ hO hR hT => does_indexArr (k := .i64) (i := 5) (o' := 5) arr_75 (oT hO s1_22 rfl) (hT 33 rfl rfl) (by decide) (by decide) rfl eR
 intro a25 wd25 N25 D25 hO hR hA hU
 obtain ⟨_, _, _, _, _, _, _, _, _, _, _, t43, t44, _⟩ := hA
 have E25 := E23.trans hR
 have s1_25 := oT hO s1_22 rfl
 have s2_25 := oT hO s2_22 rfl
 have s8_25 := oT hO s8_22 rfl
 have s18_25 := oT hO s18_22 rfl
 have s19_25 := oT hO s19_22 rfl
 have B1_25 := B1_23.ext' hR
 have B2_25 := B2_23.ext' hR
 have s43_25 : get a25 43 = w32 (rot (((s.rounds k).f : UInt32) ^^^ (v24 : UInt32)) 9) := t43
 have s44_25 : get a25 44 = Value.pointer (some ⟨b1, 5, none⟩) := t44
 clear E23 N22 D22 s1_22 s2_22 s4_22 s5_22 s8_22 s18_22 s19_22 s30_22 s31_22 B1_23 B2_23
 refine tail_none rfl rfl (does_storeD (o := 5) (n := 1) (cs' := [w32 (v14), w32 (v24), w32 ((s.rounds k).c), w32 ((s.rounds k).d), w32 (v17), w32 (rot (((s.rounds k).f : UInt32) ^^^ (v24 : UInt32)) 9), w32 ((s.rounds k).g), w32 ((s.rounds k).h)]) (V := w32 (rot (((s.rounds k).f : UInt32) ^^^ (v24 : UInt32)) 9)) s44_25 s43_25 B1_25 (nB rfl) rfl siz_22 rfl rfl (fun wd26 hX hz B1_26 => ?_))
 have E26 := E25.since hX (fun k e => e ▸ fr_b1)
 have B2_26 := B2_25.ext hX ne_b1_b2.symm
 clear hX hz E25 B1_25 B2_25
 obtain ⟨v27, hv27⟩ : ∃ v : UInt32, rot (((s.rounds k).f : UInt32) ^^^ (v24 : UInt32)) 9 = v := ⟨_, rfl⟩
 rw [hv27] at B1_26
 refine tail_nil ?_
 refine Rl [] [(45, Pr.ex (i64 ((2 : Nat) : Int)))] 1 N25 D25 ?_ ?_
 refine Ac ?_ (Az _)
 exact Ap fun aq wq _ hO hR hT => does_add (a := ((1 : Nat) : Int)) (b := ((1 : Nat) : Int)) (r := ((2 : Nat) : Int)) (oT hO s19_25 rfl) rfl (by decide) (by decide) (by decide) eR
 intro a28 wd28 N28 D28 hO hR hA hU
 obtain ⟨t45, _⟩ := hA
 have E28 := E26.trans hR
 have s1_28 := oT hO s1_25 rfl
 have s2_28 := oT hO s2_25 rfl
 have s8_28 := oT hO s8_25 rfl
 have s18_28 := oT hO s18_25 rfl
 have s19_28 := oT hO s19_25 rfl
 have B1_28 := B1_26.ext' hR
 have B2_28 := B2_26.ext' hR
 have s45_28 : get a28 45 = i64 ((2 : Nat) : Int) := t45
 clear E26 N25 D25 s1_25 s2_25 s8_25 s18_25 s19_25 s43_25 s44_25 B1_26 B2_26
 refine tail_put rfl rfl N28 D28 (by decide) (does_move (V := i64 ((2 : Nat) : Int)) s45_28 (fun a29 N29 D29 hv hO => ?_))
 have s19_29 := hv
 have s1_29 := oT hO s1_28 rfl
 have s2_29 := oT hO s2_28 rfl
 have s8_29 := oT hO s8_28 rfl
 have s18_29 := oT hO s18_28 rfl
 clear hO hv N28 D28 s1_28 s2_28 s8_28 s18_28 s45_28 s19_28
 refine tail_nil ?_
 refine round_step ?_
 refine wp_seq ?_
 refine Rl [] [(20, Pr.ex (Value.bool (true)))] 1 N29 D29 ?_ ?_
 refine Ac ?_ (Az _)
 exact Ap fun aq wq _ hO hR hT => does_lss (a := ((2 : Nat) : Int)) (b := ((4 : Nat) : Int)) (oT hO s19_29 rfl) rfl eR
 intro a30 wd30 N30 D30 hO hR hA hU
 obtain ⟨t20, _⟩ := hA
 have E30 := E28.trans hR
 have s1_30 := oT hO s1_29 rfl
 have s2_30 := oT hO s2_29 rfl
 have s8_30 := oT hO s8_29 rfl
 have s18_30 := oT hO s18_29 rfl
 have s19_30 := oT hO s19_29 rfl
 have B1_30 := B1_28.ext' hR
 have B2_30 := B2_28.ext' hR
 have s20_30 : get a30 20 = Value.bool (true) := t20
 clear E28 N29 D29 s1_29 s2_29 s8_29 s18_29 s19_29 B1_28 B2_28
 refine tail_nil ?_
 refine wp_seq ?_
 refine wp_ifT s20_30 ?_
 refine wp_skip ?_
 refine wp_seq ?_
 refine wp_block ?_
 refine wp_seq ?_
 refine Rl [] [(21, Pr.ex (i64 ((2 : Nat) : Int))), (22, Pr.ex (i64 ((13 : Nat) : Int))), (4, Pr.ex (i64 ((2 : Nat) : Int))), (5, Pr.ex (i64 ((13 : Nat) : Int)))] 4 N30 D30 ?_ ?_
 refine Ac ?_ (Ac ?_ (Ac ?_ (Ac ?_ (Az _))))
 exact Am s19_30 rfl fun _ => rfl
 exact Ap fun aq wq _ hO hR hT => does_indexArrV (cs := [i64 ((7 : Nat) : Int), i64 ((9 : Nat) : Int), i64 ((13 : Nat) : Int), i64 ((18 : Nat) : Int)]) (k := .i64) (i := 2) (V := i64 ((13 : Nat) : Int)) arr_113 one_3 (oT hO s18_30 rfl) (oT hO s19_30 rfl) (by decide) (by decide) rfl eR
 exact Ap fun aq wq _ hO hR hT => does_assign (V := i64 ((2 : Nat) : Int)) (hT 21 rfl rfl) eR
 exact Ap fun aq wq _ hO hR hT => does_assign (V := i64 ((13 : Nat) : Int)) (hT 22 rfl rfl) eR
 intro a31 wd31 N31 D31 hO hR hA hU
 obtain ⟨_, _, t4, t5, _⟩ := hA
 have E31 := E30.trans hR
 have s1_31 := oT hO s1_30 rfl
 have s2_31 := oT hO s2_30 rfl
 have s8_31 := oT hO s8_30 rfl
 have s18_31 := oT hO s18_30 rfl
 have s19_31 := oT hO s19_30 rfl
 have B1_31 := B1_30.ext' hR
 have B2_31 := B2_30.ext' hR
 have s4_31 : get a31 4 = i64 ((2 : Nat) : Int) := t4
 have s5_31 : get a31 5 = i64 ((13 : Nat) : Int) := t5
 clear E30 N30 D30 s1_30 s2_30 s8_30 s18_30 s19_30 s20_30 B1_30 B2_30
 refine tail_nil ?_
 refine wp_seq ?_
 refine Ra [] [(23, Pr.ex (i64 ((2 : Nat) : Int))), (24, Pr.ex (Value.pointer (some ⟨b1, 2, none⟩))), (25, Pr.ex (w32 ((s.rounds k).c))), (26, Pr.ex (i64 ((2 : Nat) : Int))), (27, Pr.ex (i64 ((6 : Nat) : Int))), (28, Pr.ex (Value.pointer (some ⟨b1, 6, none⟩))), (29, Pr.ex (w32 ((s.rounds k).g))), (30, Pr.ex (w32 (((s.rounds k).c : UInt32) + ((s.rounds k).g : UInt32)))), (31, Pr.ex (Value.pointer (some ⟨b1, 2, none⟩)))] 9 mixed N31 D31 ?_ ?_
 refine Ac ?_ (Ac ?_ (Ac ?_ (Ac ?_ (Ac ?_ (Ac ?_ (Ac ?_ (Ac ?_ (Ac ?_ (Az _)))))))))
 exact Am s4_31 rfl fun _ => rfl
 exact Ad fun aq wq _ hO hR hT => does_indexArr (k := .i64) (i := 2) (o' := 2) arr_75 (oT hO s1_31 rfl) (hT 23 rfl rfl) (by decide) (by decide) rfl eR
 exact Ad fun aq wq _ hO hR hT => does_loadD1 (o := 2) (V := w32 ((s.rounds k).c)) (hT 24 rfl rfl) (B1_31.ext' hR) rfl one_22 eR
 exact Am s4_31 rfl fun _ => rfl
 exact Ad fun aq wq _ hO hR hT => does_add (a := ((2 : Nat) : Int)) (b := ((4 : Nat) : Int)) (r := ((6 : Nat) : Int)) (hT 26 rfl rfl) rfl (by decide) (by decide) (by decide) eR
 exact Ad fun aq wq _ hO hR hT => does_indexArr (k := .i64) (i := 6) (o' := 6) arr_75 (oT hO s1_31 rfl) (hT 27 rfl rfl) (by decide) (by decide) rfl eR
 exact Ad fun aq wq _ hO hR hT => does_loadD1 (o := 6) (V := w32 ((s.rounds k).g)) (hT 28 rfl rfl) (B1_31.ext' hR) rfl one_22 eR
 exact Ad fun aq wq _ hO hR hT => does_add32 (a := ((s.rounds k).c : UInt32)) (b := ((s.rounds k).g : UInt32)) (hT 25 rfl rfl) (hT 29 rfl rfl) eR
 exact Ad fun aq wq _ hO hR hT => does_indexArr (k := .i64) (i := 2) (o' := 2) arr_75 (oT hO s1_31 rfl) (hT 23 rfl rfl) (by decide) (by decide) rfl eR
 intro a32 wd32 N32 D32 hO hR hA hU
 obtain ⟨_, _, _, _, _, _, _, t30, t31, _⟩ := hA
 have E32 := E31.trans hR
 have s1_32 := oT hO s1_31 rfl
 have s2_32 := oT hO s2_31 rfl
 have s4_32 := oT hO s4_31 rfl
 have s5_32 := oT hO s5_31 rfl
 have s8_32 := oT hO s8_31 rfl
 have s18_32 := oT hO s18_31 rfl
 have s19_32 := oT hO s19_31 rfl
 have B1_32 := B1_31.ext' hR
 have B2_32 := B2_31.ext' hR
 have s30_32 : get a32 30 = w32 (((s.rounds k).c : UInt32) + ((s.rounds k).g : UInt32)) := t30
 have s31_32 : get a32 31 = Value.pointer (some ⟨b1, 2, none⟩) := t31
 clear E31 N31 D31 s1_31 s2_31 s4_31 s5_31 s8_31 s18_31 s19_31 B1_31 B2_31
 refine tail_none rfl rfl (does_storeD (o := 2) (n := 1) (cs' := [w32 (v14), w32 (v24), w32 (((s.rounds k).c : UInt32) + ((s.rounds k).g : UInt32)), w32 ((s.rounds k).d), w32 (v17), w32 (v27), w32 ((s.rounds k).g), w32 ((s.rounds k).h)]) (V := w32 (((s.rounds k).c : UInt32) + ((s.rounds k).g : UInt32))) s31_32 s30_32 B1_32 (nB rfl) rfl siz_22 rfl rfl (fun wd33 hX hz B1_33 => ?_))
 have E33 := E32.since hX (fun k e => e ▸ fr_b1)
 have B2_33 := B2_32.ext hX ne_b1_b2.symm
 clear hX hz E32 B1_32 B2_32
 obtain ⟨v34, hv34⟩ : ∃ v : UInt32, ((s.rounds k).c : UInt32) + ((s.rounds k).g : UInt32) = v := ⟨_, rfl⟩
 rw [hv34] at B1_33
 refine tail_nil ?_
 refine Ra [] [(32, Pr.ex (i64 ((2 : Nat) : Int))), (33, Pr.ex (i64 ((6 : Nat) : Int))), (34, Pr.ex (i64 ((2 : Nat) : Int))), (35, Pr.ex (i64 ((6 : Nat) : Int))), (36, Pr.ex (Value.pointer (some ⟨b1, 6, none⟩))), (37, Pr.ex (w32 ((s.rounds k).g))), (38, Pr.ex (i64 ((2 : Nat) : Int))), (39, Pr.ex (Value.pointer (some ⟨b1, 2, none⟩))), (40, Pr.ex (w32 (v34))), (41, Pr.ex (w32 (((s.rounds k).g : UInt32) ^^^ (v34 : UInt32)))), (42, Pr.ex (i64 ((13 : Nat) : Int))), (43, Pr.ex (w32 (rot (((s.rounds k).g : UInt32) ^^^ (v34 : UInt32)) 13))), (44, Pr.ex (Value.pointer (some ⟨b1, 6, none⟩)))] 13 mixed N32 D32 ?_ ?_
 refine Ac ?_ (Ac ?_ (Ac ?_ (Ac ?_ (Ac ?_ (Ac ?_ (Ac ?_ (Ac ?_ (Ac ?_ (Ac ?_ (Ac ?_ (Ac ?_ (Ac ?_ (Az _)))))))))))))
 exact Am s4_32 rfl fun _ => rfl
 exact Ad fun aq wq _ hO hR hT => does_add (a := ((2 : Nat) : Int)) (b := ((4 : Nat) : Int)) (r := ((6 : Nat) : Int)) (hT 32 rfl rfl) rfl (by decide) (by decide) (by decide) eR
 exact Am s4_32 rfl fun _ => rfl
 exact Ad fun aq wq _ hO hR hT => does_add (a := ((2 : Nat) : Int)) (b := ((4 : Nat) : Int)) (r := ((6 : Nat) : Int)) (hT 34 rfl rfl) rfl (by decide) (by decide) (by decide) eR
 exact Ad fun aq wq _ hO hR hT => does_indexArr (k := .i64) (i := 6) (o' := 6) arr_75 (oT hO s1_32 rfl) (hT 35 rfl rfl) (by decide) (by decide) rfl eR
 exact Ad fun aq wq _ hO hR hT => does_loadD1 (o := 6) (V := w32 ((s.rounds k).g)) (hT 36 rfl rfl) (B1_33.ext' hR) rfl one_22 eR
 exact Am s4_32 rfl fun _ => rfl
 exact Ad fun aq wq _ hO hR hT => does_indexArr (k := .i64) (i := 2) (o' := 2) arr_75 (oT hO s1_32 rfl) (hT 38 rfl rfl) (by decide) (by decide) rfl eR
 exact Ad fun aq wq _ hO hR hT => does_loadD1 (o := 2) (V := w32 (v34)) (hT 39 rfl rfl) (B1_33.ext' hR) rfl one_22 eR
 exact Ad fun aq wq _ hO hR hT => does_xor32 (a := ((s.rounds k).g : UInt32)) (b := (v34 : UInt32)) (hT 37 rfl rfl) (hT 40 rfl rfl) eR
 exact Am s5_32 rfl fun _ => rfl
 exact Ad fun aq wq _ hO hR hT => does_ret (vs := #[w32 (((s.rounds k).g : UInt32) ^^^ (v34 : UInt32)), i64 ((13 : Nat) : Int)]) call_81 (args2 (hT 41 rfl rfl) (hT 42 rfl rfl)) rfl ((turn (((s.rounds k).g : UInt32) ^^^ (v34 : UInt32)) (13) wq (by decide)).mono fun v w2 h => ⟨h.2, h.1⟩)
 exact Ad fun aq wq _ hO hR hT => does_indexArr (k := .i64) (i := 6) (o' := 6) arr_75 (oT hO s1_32 rfl) (hT 33 rfl rfl) (by decide) (by decide) rfl eR
 intro a35 wd35 N35 D35 hO hR hA hU
 obtain ⟨_, _, _, _, _, _, _, _, _, _, _, t43, t44, _⟩ := hA
 have E35 := E33.trans hR
 have s1_35 := oT hO s1_32 rfl
 have s2_35 := oT hO s2_32 rfl
 have s8_35 := oT hO s8_32 rfl
 have s18_35 := oT hO s18_32 rfl
 have s19_35 := oT hO s19_32 rfl
 have B1_35 := B1_33.ext' hR
 have B2_35 := B2_33.ext' hR
 have s43_35 : get a35 43 = w32 (rot (((s.rounds k).g : UInt32) ^^^ (v34 : UInt32)) 13) := t43
 have s44_35 : get a35 44 = Value.pointer (some ⟨b1, 6, none⟩) := t44
 clear E33 N32 D32 s1_32 s2_32 s4_32 s5_32 s8_32 s18_32 s19_32 s30_32 s31_32 B1_33 B2_33
 refine tail_none rfl rfl (does_storeD (o := 6) (n := 1) (cs' := [w32 (v14), w32 (v24), w32 (v34), w32 ((s.rounds k).d), w32 (v17), w32 (v27), w32 (rot (((s.rounds k).g : UInt32) ^^^ (v34 : UInt32)) 13), w32 ((s.rounds k).h)]) (V := w32 (rot (((s.rounds k).g : UInt32) ^^^ (v34 : UInt32)) 13)) s44_35 s43_35 B1_35 (nB rfl) rfl siz_22 rfl rfl (fun wd36 hX hz B1_36 => ?_))
 have E36 := E35.since hX (fun k e => e ▸ fr_b1)
 have B2_36 := B2_35.ext hX ne_b1_b2.symm
 clear hX hz E35 B1_35 B2_35
 obtain ⟨v37, hv37⟩ : ∃ v : UInt32, rot (((s.rounds k).g : UInt32) ^^^ (v34 : UInt32)) 13 = v := ⟨_, rfl⟩
 rw [hv37] at B1_36
 refine tail_nil ?_
 refine Rl [] [(45, Pr.ex (i64 ((3 : Nat) : Int)))] 1 N35 D35 ?_ ?_
 refine Ac ?_ (Az _)
 exact Ap fun aq wq _ hO hR hT => does_add (a := ((2 : Nat) : Int)) (b := ((1 : Nat) : Int)) (r := ((3 : Nat) : Int)) (oT hO s19_35 rfl) rfl (by decide) (by decide) (by decide) eR
 intro a38 wd38 N38 D38 hO hR hA hU
 obtain ⟨t45, _⟩ := hA
 have E38 := E36.trans hR
 have s1_38 := oT hO s1_35 rfl
 have s2_38 := oT hO s2_35 rfl
 have s8_38 := oT hO s8_35 rfl
 have s18_38 := oT hO s18_35 rfl
 have s19_38 := oT hO s19_35 rfl
 have B1_38 := B1_36.ext' hR
 have B2_38 := B2_36.ext' hR
 have s45_38 : get a38 45 = i64 ((3 : Nat) : Int) := t45
 clear E36 N35 D35 s1_35 s2_35 s8_35 s18_35 s19_35 s43_35 s44_35 B1_36 B2_36
 refine tail_put rfl rfl N38 D38 (by decide) (does_move (V := i64 ((3 : Nat) : Int)) s45_38 (fun a39 N39 D39 hv hO => ?_))
 have s19_39 := hv
 have s1_39 := oT hO s1_38 rfl
 have s2_39 := oT hO s2_38 rfl
 have s8_39 := oT hO s8_38 rfl
 have s18_39 := oT hO s18_38 rfl
 clear hO hv N38 D38 s1_38 s2_38 s8_38 s18_38 s45_38 s19_38
 refine tail_nil ?_
 refine round_step ?_
 refine wp_seq ?_
 refine Rl [] [(20, Pr.ex (Value.bool (true)))] 1 N39 D39 ?_ ?_
 refine Ac ?_ (Az _)
 exact Ap fun aq wq _ hO hR hT => does_lss (a := ((3 : Nat) : Int)) (b := ((4 : Nat) : Int)) (oT hO s19_39 rfl) rfl eR
 intro a40 wd40 N40 D40 hO hR hA hU
 obtain ⟨t20, _⟩ := hA
 have E40 := E38.trans hR
 have s1_40 := oT hO s1_39 rfl
 have s2_40 := oT hO s2_39 rfl
 have s8_40 := oT hO s8_39 rfl
 have s18_40 := oT hO s18_39 rfl
 have s19_40 := oT hO s19_39 rfl
 have B1_40 := B1_38.ext' hR
 have B2_40 := B2_38.ext' hR
 have s20_40 : get a40 20 = Value.bool (true) := t20
 clear E38 N39 D39 s1_39 s2_39 s8_39 s18_39 s19_39 B1_38 B2_38
 refine tail_nil ?_
 refine wp_seq ?_
 refine wp_ifT s20_40 ?_
 refine wp_skip ?_
 refine wp_seq ?_
 refine wp_block ?_
 refine wp_seq ?_
 refine Rl [] [(21, Pr.ex (i64 ((3 : Nat) : Int))), (22, Pr.ex (i64 ((18 : Nat) : Int))), (4, Pr.ex (i64 ((3 : Nat) : Int))), (5, Pr.ex (i64 ((18 : Nat) : Int)))] 4 N40 D40 ?_ ?_
 refine Ac ?_ (Ac ?_ (Ac ?_ (Ac ?_ (Az _))))
 exact Am s19_40 rfl fun _ => rfl
 exact Ap fun aq wq _ hO hR hT => does_indexArrV (cs := [i64 ((7 : Nat) : Int), i64 ((9 : Nat) : Int), i64 ((13 : Nat) : Int), i64 ((18 : Nat) : Int)]) (k := .i64) (i := 3) (V := i64 ((18 : Nat) : Int)) arr_113 one_3 (oT hO s18_40 rfl) (oT hO s19_40 rfl) (by decide) (by decide) rfl eR
 exact Ap fun aq wq _ hO hR hT => does_assign (V := i64 ((3 : Nat) : Int)) (hT 21 rfl rfl) eR
 exact Ap fun aq wq _ hO hR hT => does_assign (V := i64 ((18 : Nat) : Int)) (hT 22 rfl rfl) eR
 intro a41 wd41 N41 D41 hO hR hA hU
 obtain ⟨_, _, t4, t5, _⟩ := hA
 have E41 := E40.trans hR
 have s1_41 := oT hO s1_40 rfl
 have s2_41 := oT hO s2_40 rfl
 have s8_41 := oT hO s8_40 rfl
 have s18_41 := oT hO s18_40 rfl
 have s19_41 := oT hO s19_40 rfl
 have B1_41 := B1_40.ext' hR
 have B2_41 := B2_40.ext' hR
 have s4_41 : get a41 4 = i64 ((3 : Nat) : Int) := t4
 have s5_41 : get a41 5 = i64 ((18 : Nat) : Int) := t5
 clear E40 N40 D40 s1_40 s2_40 s8_40 s18_40 s19_40 s20_40 B1_40 B2_40
 refine tail_nil ?_
 refine wp_seq ?_
 refine Ra [] [(23, Pr.ex (i64 ((3 : Nat) : Int))), (24, Pr.ex (Value.pointer (some ⟨b1, 3, none⟩))), (25, Pr.ex (w32 ((s.rounds k).d))), (26, Pr.ex (i64 ((3 : Nat) : Int))), (27, Pr.ex (i64 ((7 : Nat) : Int))), (28, Pr.ex (Value.pointer (some ⟨b1, 7, none⟩))), (29, Pr.ex (w32 ((s.rounds k).h))), (30, Pr.ex (w32 (((s.rounds k).d : UInt32) + ((s.rounds k).h : UInt32)))), (31, Pr.ex (Value.pointer (some ⟨b1, 3, none⟩)))] 9 mixed N41 D41 ?_ ?_
 refine Ac ?_ (Ac ?_ (Ac ?_ (Ac ?_ (Ac ?_ (Ac ?_ (Ac ?_ (Ac ?_ (Ac ?_ (Az _)))))))))
 exact Am s4_41 rfl fun _ => rfl
 exact Ad fun aq wq _ hO hR hT => does_indexArr (k := .i64) (i := 3) (o' := 3) arr_75 (oT hO s1_41 rfl) (hT 23 rfl rfl) (by decide) (by decide) rfl eR
 exact Ad fun aq wq _ hO hR hT => does_loadD1 (o := 3) (V := w32 ((s.rounds k).d)) (hT 24 rfl rfl) (B1_41.ext' hR) rfl one_22 eR
 exact Am s4_41 rfl fun _ => rfl
 exact Ad fun aq wq _ hO hR hT => does_add (a := ((3 : Nat) : Int)) (b := ((4 : Nat) : Int)) (r := ((7 : Nat) : Int)) (hT 26 rfl rfl) rfl (by decide) (by decide) (by decide) eR
 exact Ad fun aq wq _ hO hR hT => does_indexArr (k := .i64) (i := 7) (o' := 7) arr_75 (oT hO s1_41 rfl) (hT 27 rfl rfl) (by decide) (by decide) rfl eR
 exact Ad fun aq wq _ hO hR hT => does_loadD1 (o := 7) (V := w32 ((s.rounds k).h)) (hT 28 rfl rfl) (B1_41.ext' hR) rfl one_22 eR
 exact Ad fun aq wq _ hO hR hT => does_add32 (a := ((s.rounds k).d : UInt32)) (b := ((s.rounds k).h : UInt32)) (hT 25 rfl rfl) (hT 29 rfl rfl) eR
 exact Ad fun aq wq _ hO hR hT => does_indexArr (k := .i64) (i := 3) (o' := 3) arr_75 (oT hO s1_41 rfl) (hT 23 rfl rfl) (by decide) (by decide) rfl eR
 intro a42 wd42 N42 D42 hO hR hA hU
 obtain ⟨_, _, _, _, _, _, _, t30, t31, _⟩ := hA
 have E42 := E41.trans hR
 have s1_42 := oT hO s1_41 rfl
 have s2_42 := oT hO s2_41 rfl
 have s4_42 := oT hO s4_41 rfl
 have s5_42 := oT hO s5_41 rfl
 have s8_42 := oT hO s8_41 rfl
 have s18_42 := oT hO s18_41 rfl
 have s19_42 := oT hO s19_41 rfl
 have B1_42 := B1_41.ext' hR
 have B2_42 := B2_41.ext' hR
 have s30_42 : get a42 30 = w32 (((s.rounds k).d : UInt32) + ((s.rounds k).h : UInt32)) := t30
 have s31_42 : get a42 31 = Value.pointer (some ⟨b1, 3, none⟩) := t31
 clear E41 N41 D41 s1_41 s2_41 s4_41 s5_41 s8_41 s18_41 s19_41 B1_41 B2_41
 refine tail_none rfl rfl (does_storeD (o := 3) (n := 1) (cs' := [w32 (v14), w32 (v24), w32 (v34), w32 (((s.rounds k).d : UInt32) + ((s.rounds k).h : UInt32)), w32 (v17), w32 (v27), w32 (v37), w32 ((s.rounds k).h)]) (V := w32 (((s.rounds k).d : UInt32) + ((s.rounds k).h : UInt32))) s31_42 s30_42 B1_42 (nB rfl) rfl siz_22 rfl rfl (fun wd43 hX hz B1_43 => ?_))
 have E43 := E42.since hX (fun k e => e ▸ fr_b1)
 have B2_43 := B2_42.ext hX ne_b1_b2.symm
 clear hX hz E42 B1_42 B2_42
 obtain ⟨v44, hv44⟩ : ∃ v : UInt32, ((s.rounds k).d : UInt32) + ((s.rounds k).h : UInt32) = v := ⟨_, rfl⟩
 rw [hv44] at B1_43
 refine tail_nil ?_
 refine Ra [] [(32, Pr.ex (i64 ((3 : Nat) : Int))), (33, Pr.ex (i64 ((7 : Nat) : Int))), (34, Pr.ex (i64 ((3 : Nat) : Int))), (35, Pr.ex (i64 ((7 : Nat) : Int))), (36, Pr.ex (Value.pointer (some ⟨b1, 7, none⟩))), (37, Pr.ex (w32 ((s.rounds k).h))), (38, Pr.ex (i64 ((3 : Nat) : Int))), (39, Pr.ex (Value.pointer (some ⟨b1, 3, none⟩))), (40, Pr.ex (w32 (v44))), (41, Pr.ex (w32 (((s.rounds k).h : UInt32) ^^^ (v44 : UInt32)))), (42, Pr.ex (i64 ((18 : Nat) : Int))), (43, Pr.ex (w32 (rot (((s.rounds k).h : UInt32) ^^^ (v44 : UInt32)) 18))), (44, Pr.ex (Value.pointer (some ⟨b1, 7, none⟩)))] 13 mixed N42 D42 ?_ ?_
 refine Ac ?_ (Ac ?_ (Ac ?_ (Ac ?_ (Ac ?_ (Ac ?_ (Ac ?_ (Ac ?_ (Ac ?_ (Ac ?_ (Ac ?_ (Ac ?_ (Ac ?_ (Az _)))))))))))))
 exact Am s4_42 rfl fun _ => rfl
 exact Ad fun aq wq _ hO hR hT => does_add (a := ((3 : Nat) : Int)) (b := ((4 : Nat) : Int)) (r := ((7 : Nat) : Int)) (hT 32 rfl rfl) rfl (by decide) (by decide) (by decide) eR
 exact Am s4_42 rfl fun _ => rfl
 exact Ad fun aq wq _ hO hR hT => does_add (a := ((3 : Nat) : Int)) (b := ((4 : Nat) : Int)) (r := ((7 : Nat) : Int)) (hT 34 rfl rfl) rfl (by decide) (by decide) (by decide) eR
 exact Ad fun aq wq _ hO hR hT => does_indexArr (k := .i64) (i := 7) (o' := 7) arr_75 (oT hO s1_42 rfl) (hT 35 rfl rfl) (by decide) (by decide) rfl eR
 exact Ad fun aq wq _ hO hR hT => does_loadD1 (o := 7) (V := w32 ((s.rounds k).h)) (hT 36 rfl rfl) (B1_43.ext' hR) rfl one_22 eR
 exact Am s4_42 rfl fun _ => rfl
 exact Ad fun aq wq _ hO hR hT => does_indexArr (k := .i64) (i := 3) (o' := 3) arr_75 (oT hO s1_42 rfl) (hT 38 rfl rfl) (by decide) (by decide) rfl eR
 exact Ad fun aq wq _ hO hR hT => does_loadD1 (o := 3) (V := w32 (v44)) (hT 39 rfl rfl) (B1_43.ext' hR) rfl one_22 eR
 exact Ad fun aq wq _ hO hR hT => does_xor32 (a := ((s.rounds k).h : UInt32)) (b := (v44 : UInt32)) (hT 37 rfl rfl) (hT 40 rfl rfl) eR
 exact Am s5_42 rfl fun _ => rfl
 exact Ad fun aq wq _ hO hR hT => does_ret (vs := #[w32 (((s.rounds k).h : UInt32) ^^^ (v44 : UInt32)), i64 ((18 : Nat) : Int)]) call_81 (args2 (hT 41 rfl rfl) (hT 42 rfl rfl)) rfl ((turn (((s.rounds k).h : UInt32) ^^^ (v44 : UInt32)) (18) wq (by decide)).mono fun v w2 h => ⟨h.2, h.1⟩)
 exact Ad fun aq wq _ hO hR hT => does_indexArr (k := .i64) (i := 7) (o' := 7) arr_75 (oT hO s1_42 rfl) (hT 33 rfl rfl) (by decide) (by decide) rfl eR
 intro a45 wd45 N45 D45 hO hR hA hU
 obtain ⟨_, _, _, _, _, _, _, _, _, _, _, t43, t44, _⟩ := hA
 have E45 := E43.trans hR
 have s1_45 := oT hO s1_42 rfl
 have s2_45 := oT hO s2_42 rfl
 have s8_45 := oT hO s8_42 rfl
 have s18_45 := oT hO s18_42 rfl
 have s19_45 := oT hO s19_42 rfl
 have B1_45 := B1_43.ext' hR
 have B2_45 := B2_43.ext' hR
 have s43_45 : get a45 43 = w32 (rot (((s.rounds k).h : UInt32) ^^^ (v44 : UInt32)) 18) := t43
 have s44_45 : get a45 44 = Value.pointer (some ⟨b1, 7, none⟩) := t44
 clear E43 N42 D42 s1_42 s2_42 s4_42 s5_42 s8_42 s18_42 s19_42 s30_42 s31_42 B1_43 B2_43
 refine tail_none rfl rfl (does_storeD (o := 7) (n := 1) (cs' := [w32 (v14), w32 (v24), w32 (v34), w32 (v44), w32 (v17), w32 (v27), w32 (v37), w32 (rot (((s.rounds k).h : UInt32) ^^^ (v44 : UInt32)) 18)]) (V := w32 (rot (((s.rounds k).h : UInt32) ^^^ (v44 : UInt32)) 18)) s44_45 s43_45 B1_45 (nB rfl) rfl siz_22 rfl rfl (fun wd46 hX hz B1_46 => ?_))
 have E46 := E45.since hX (fun k e => e ▸ fr_b1)
 have B2_46 := B2_45.ext hX ne_b1_b2.symm
 clear hX hz E45 B1_45 B2_45
 obtain ⟨v47, hv47⟩ : ∃ v : UInt32, rot (((s.rounds k).h : UInt32) ^^^ (v44 : UInt32)) 18 = v := ⟨_, rfl⟩
 rw [hv47] at B1_46
 refine tail_nil ?_
 refine Rl [] [(45, Pr.ex (i64 ((4 : Nat) : Int)))] 1 N45 D45 ?_ ?_
 refine Ac ?_ (Az _)
 exact Ap fun aq wq _ hO hR hT => does_add (a := ((3 : Nat) : Int)) (b := ((1 : Nat) : Int)) (r := ((4 : Nat) : Int)) (oT hO s19_45 rfl) rfl (by decide) (by decide) (by decide) eR
 intro a48 wd48 N48 D48 hO hR hA hU
 obtain ⟨t45, _⟩ := hA
 have E48 := E46.trans hR
 have s1_48 := oT hO s1_45 rfl
 have s2_48 := oT hO s2_45 rfl
 have s8_48 := oT hO s8_45 rfl
 have s18_48 := oT hO s18_45 rfl
 have s19_48 := oT hO s19_45 rfl
 have B1_48 := B1_46.ext' hR
 have B2_48 := B2_46.ext' hR
 have s45_48 : get a48 45 = i64 ((4 : Nat) : Int) := t45
 clear E46 N45 D45 s1_45 s2_45 s8_45 s18_45 s19_45 s43_45 s44_45 B1_46 B2_46
 refine tail_put rfl rfl N48 D48 (by decide) (does_move (V := i64 ((4 : Nat) : Int)) s45_48 (fun a49 N49 D49 hv hO => ?_))
 have s19_49 := hv
 have s1_49 := oT hO s1_48 rfl
 have s2_49 := oT hO s2_48 rfl
 have s8_49 := oT hO s8_48 rfl
 have s18_49 := oT hO s18_48 rfl
 clear hO hv N48 D48 s1_48 s2_48 s8_48 s18_48 s45_48 s19_48
 refine tail_nil ?_
 refine round_step ?_
 refine wp_seq ?_
 refine Rl [] [(20, Pr.ex (Value.bool (false)))] 1 N49 D49 ?_ ?_
 refine Ac ?_ (Az _)
 exact Ap fun aq wq _ hO hR hT => does_lss (a := ((4 : Nat) : Int)) (b := ((4 : Nat) : Int)) (oT hO s19_49 rfl) rfl eR
 intro a50 wd50 N50 D50 hO hR hA hU
 obtain ⟨t20, _⟩ := hA
 have E50 := E48.trans hR
 have s1_50 := oT hO s1_49 rfl
 have s2_50 := oT hO s2_49 rfl
 have s8_50 := oT hO s8_49 rfl
 have s18_50 := oT hO s18_49 rfl
 have s19_50 := oT hO s19_49 rfl
 have B1_50 := B1_48.ext' hR
 have B2_50 := B2_48.ext' hR
 have s20_50 : get a50 20 = Value.bool (false) := t20
 clear E48 N49 D49 s1_49 s2_49 s8_49 s18_49 s19_49 B1_48 B2_48
 refine tail_nil ?_
 refine wp_seq ?_
 refine wp_ifF s20_50 ?_
 refine wp_exit ?_
 refine wp_seq ?_
 refine Rl [6] [(46, Pr.ex (Value.agg #[w32 (v14), w32 (v24), w32 (v34), w32 (v44), w32 (v17), w32 (v27), w32 (v37), w32 (v47)])), (6, Pr.box' wd50.heap.size 75 [w32 (0), w32 (0), w32 (0), w32 (0), w32 (0), w32 (0), w32 (0), w32 (0)])] 2 N50 D50 ?_ ?_
 refine Ac ?_ (Ac ?_ (Az _))
 exact Ap fun aq wq _ hO hR hT => does_loadD (o := 0) (n := 8) (mid := [w32 (v14), w32 (v24), w32 (v34), w32 (v44), w32 (v17), w32 (v27), w32 (v37), w32 (v47)]) (oT hO s1_50 rfl) (B1_50.ext' hR) rfl rfl (nB rfl) row_75 rfl eR
 refine Ask.fresh rfl rfl ?_
 intro aq wq hNq hO hR hT
 exact does_alloc zero_75 (fun b w2 he hlo hb => ⟨he, ⟨b, rfl, Nat.le_trans hR.size' hlo, hb⟩, ⟨b, rfl, hlo, hb.lt⟩⟩)
 intro a51 wd51 N51 D51 hO hR hA hU
 obtain ⟨t46, t6, _⟩ := hA
 have E51 := E50.trans hR
 have s1_51 := oT hO s1_50 rfl
 have s2_51 := oT hO s2_50 rfl
 have s8_51 := oT hO s8_50 rfl
 have B1_51 := B1_50.ext' hR
 have B2_51 := B2_50.ext' hR
 have s46_51 : get a51 46 = Value.agg #[w32 (v14), w32 (v24), w32 (v34), w32 (v44), w32 (v17), w32 (v27), w32 (v37), w32 (v47)] := t46
 obtain ⟨b6, s6_51, lo_b6, B6_51⟩ := t6
 have ne_b1_b6 := Hl B1_50 lo_b6
 have ne_b2_b6 := Hl B2_50 lo_b6
 have fr_b6 : w0.heap.size ≤ b6 := Nat.le_trans E50.size' lo_b6
 clear E50 N50 D50 s1_50 s2_50 s8_50 s18_50 s19_50 s20_50 B1_50 B2_50
 refine tail_none rfl rfl (does_storeD (o := 0) (n := 8) (cs' := [w32 (v14), w32 (v24), w32 (v34), w32 (v44), w32 (v17), w32 (v27), w32 (v37), w32 (v47)]) (V := Value.agg #[w32 (v14), w32 (v24), w32 (v34), w32 (v44), w32 (v17), w32 (v27), w32 (v37), w32 (v47)]) s6_51 s46_51 B6_51 (nB rfl) rfl siz_75 rfl rfl (fun wd52 hX hz B6_52 => ?_))
 have E52 := E51.since hX (fun k e => e ▸ fr_b6)
 have B1_52 := B1_51.ext hX ne_b1_b6
 have B2_52 := B2_51.ext hX ne_b2_b6
 clear hX hz E51 B1_51 B2_51 B6_51
 refine tail_nil ?_
 refine wp_seq ?_
 refine Rl [] [(47, Pr.ex (i64 ((0 : Nat) : Int)))] 1 N51 D51 ?_ ?_
 refine Ac ?_ (Az _)
 exact Ap fun aq wq _ hO hR hT => does_move (V := i64 ((0 : Nat) : Int)) rfl eR
 intro a53 wd53 N53 D53 hO hR hA hU
 obtain ⟨t47, _⟩ := hA
 have E53 := E52.trans hR
 have s1_53 := oT hO s1_51 rfl
 have s2_53 := oT hO s2_51 rfl
 have s6_53 := oT hO s6_51 rfl
 have s8_53 := oT hO s8_51 rfl
 have B1_53 := B1_52.ext' hR
 have B2_53 := B2_52.ext' hR
 have B6_53 := B6_52.ext' hR
 have s47_53 : get a53 47 = i64 ((0 : Nat) : Int) := t47
 clear E52 N51 D51 s1_51 s2_51 s6_51 s8_51 s46_51 B1_52 B2_52 B6_52
 refine tail_nil ?_
 refine wp_block ?_
 refine loop_rounds 9 ?_
 refine round_step ?_
 refine wp_seq ?_
 refine Rl [] [(48, Pr.ex (Value.bool (true)))] 1 N53 D53 ?_ ?_
 refine Ac ?_ (Az _)
 exact Ap fun aq wq _ hO hR hT => does_lss (a := ((0 : Nat) : Int)) (b := ((8 : Nat) : Int)) (oT hO s47_53 rfl) rfl eR
 intro a54 wd54 N54 D54 hO hR hA hU
 obtain ⟨t48, _⟩ := hA
 have E54 := E53.trans hR
 have s1_54 := oT hO s1_53 rfl
 have s2_54 := oT hO s2_53 rfl
 have s6_54 := oT hO s6_53 rfl
 have s8_54 := oT hO s8_53 rfl
 have s47_54 := oT hO s47_53 rfl
 have B1_54 := B1_53.ext' hR
 have B2_54 := B2_53.ext' hR
 have B6_54 := B6_53.ext' hR
 have s48_54 : get a54 48 = Value.bool (true) := t48
 clear E53 N53 D53 s1_53 s2_53 s6_53 s8_53 s47_53 B1_53 B2_53 B6_53
 refine tail_nil ?_
 refine wp_seq ?_
 refine wp_ifT s48_54 ?_
 refine wp_skip ?_
 refine wp_seq ?_
 refine wp_block ?_
 refine wp_seq ?_
 refine Rl [] [(49, Pr.ex (i64 ((0 : Nat) : Int))), (7, Pr.ex (i64 ((0 : Nat) : Int)))] 2 N54 D54 ?_ ?_
 refine Ac ?_ (Ac ?_ (Az _))
 exact Am s47_54 rfl fun _ => rfl
 exact Ap fun aq wq _ hO hR hT => does_assign (V := i64 ((0 : Nat) : Int)) (hT 49 rfl rfl) eR
 intro a55 wd55 N55 D55 hO hR hA hU
 obtain ⟨_, t7, _⟩ := hA
 have E55 := E54.trans hR
 have s1_55 := oT hO s1_54 rfl
 have s2_55 := oT hO s2_54 rfl
 have s6_55 := oT hO s6_54 rfl
 have s8_55 := oT hO s8_54 rfl
 have s47_55 := oT hO s47_54 rfl
 have B1_55 := B1_54.ext' hR
 have B2_55 := B2_54.ext' hR
 have B6_55 := B6_54.ext' hR
 have s7_55 : get a55 7 = i64 ((0 : Nat) : Int) := t7
 clear E54 N54 D54 s1_54 s2_54 s6_54 s8_54 s47_54 s48_54 B1_54 B2_54 B6_54
 refine tail_nil ?_
 refine Rl [] [(50, Pr.ex (i64 ((0 : Nat) : Int))), (51, Pr.ex (i64 ((0 : Nat) : Int))), (52, Pr.ex (i64 ((3 : Nat) : Int))), (53, Pr.ex (i64 ((3 : Nat) : Int))), (54, Pr.ex (Value.pointer (some ⟨b6, 3, none⟩))), (55, Pr.ex (w32 (v44))), (56, Pr.ex (Value.pointer (some ⟨b1, 0, none⟩)))] 7 N55 D55 ?_ ?_
 refine Ac ?_ (Ac ?_ (Ac ?_ (Ac ?_ (Ac ?_ (Ac ?_ (Ac ?_ (Az _)))))))
 exact Am s7_55 rfl fun _ => rfl
 exact Am s7_55 rfl fun _ => rfl
 exact Ap fun aq wq _ hO hR hT => does_add (a := ((0 : Nat) : Int)) (b := ((3 : Nat) : Int)) (r := ((3 : Nat) : Int)) (hT 51 rfl rfl) rfl (by decide) (by decide) (by decide) eR
 exact Ap fun aq wq _ hO hR hT => does_rem (k := .i64) (a := ((3 : Nat) : Int)) (b := ((8 : Nat) : Int)) (r := ((3 : Nat) : Int)) (hT 52 rfl rfl) rfl (by decide) (by decide) (by decide) eR
 exact Ap fun aq wq _ hO hR hT => does_indexArr (k := .i64) (i := 3) (o' := 3) arr_75 (oT hO s6_55 rfl) (hT 53 rfl rfl) (by decide) (by decide) rfl eR
 exact Ap fun aq wq _ hO hR hT => does_loadD1 (o := 3) (V := w32 (v44)) (hT 54 rfl rfl) (B6_55.ext' hR) rfl one_22 eR
 exact Ap fun aq wq _ hO hR hT => does_indexArr (k := .i64) (i := 0) (o' := 0) arr_75 (oT hO s1_55 rfl) (hT 50 rfl rfl) (by decide) (by decide) rfl eR
 intro a56 wd56 N56 D56 hO hR hA hU
 obtain ⟨_, _, _, _, _, t55, t56, _⟩ := hA
 have E56 := E55.trans hR
 have s1_56 := oT hO s1_55 rfl
 have s2_56 := oT hO s2_55 rfl
 have s6_56 := oT hO s6_55 rfl
 have s8_56 := oT hO s8_55 rfl
 have s47_56 := oT hO s47_55 rfl
 have B1_56 := B1_55.ext' hR
 have B2_56 := B2_55.ext' hR
 have B6_56 := B6_55.ext' hR
 have s55_56 : get a56 55 = w32 (v44) := t55
 have s56_56 : get a56 56 = Value.pointer (some ⟨b1, 0, none⟩) := t56
 clear E55 N55 D55 s1_55 s2_55 s6_55 s7_55 s8_55 s47_55 B1_55 B2_55 B6_55
 refine tail_none rfl rfl (does_storeD (o := 0) (n := 1) (cs' := [w32 (v44), w32 (v24), w32 (v34), w32 (v44), w32 (v17), w32 (v27), w32 (v37), w32 (v47)]) (V := w32 (v44)) s56_56 s55_56 B1_56 (nB rfl) rfl siz_22 rfl rfl (fun wd57 hX hz B1_57 => ?_))
 have E57 := E56.since hX (fun k e => e ▸ fr_b1)
 have B2_57 := B2_56.ext hX ne_b1_b2.symm
 have B6_57 := B6_56.ext hX ne_b1_b6.symm
 clear hX hz E56 B1_56 B2_56 B6_56
 refine tail_nil ?_
 refine Rl [] [(57, Pr.ex (i64 ((1 : Nat) : Int)))] 1 N56 D56 ?_ ?_
 refine Ac ?_ (Az _)
 exact Ap fun aq wq _ hO hR hT => does_add (a := ((0 : Nat) : Int)) (b := ((1 : Nat) : Int)) (r := ((1 : Nat) : Int)) (oT hO s47_56 rfl) rfl (by decide) (by decide) (by decide) eR
 intro a58 wd58 N58 D58 hO hR hA hU
 obtain ⟨t57, _⟩ := hA
 have E58 := E57.trans hR
 have s1_58 := oT hO s1_56 rfl
 have s2_58 := oT hO s2_56 rfl
 have s6_58 := oT hO s6_56 rfl
 have s8_58 := oT hO s8_56 rfl
 have s47_58 := oT hO s47_56 rfl
 have B1_58 := B1_57.ext' hR
 have B2_58 := B2_57.ext' hR
 have B6_58 := B6_57.ext' hR
 have s57_58 : get a58 57 = i64 ((1 : Nat) : Int) := t57
 clear E57 N56 D56 s1_56 s2_56 s6_56 s8_56 s47_56 s55_56 s56_56 B1_57 B2_57 B6_57
 refine tail_put rfl rfl N58 D58 (by decide) (does_move (V := i64 ((1 : Nat) : Int)) s57_58 (fun a59 N59 D59 hv hO => ?_))
 have s47_59 := hv
 have s1_59 := oT hO s1_58 rfl
 have s2_59 := oT hO s2_58 rfl
 have s6_59 := oT hO s6_58 rfl
 have s8_59 := oT hO s8_58 rfl
 clear hO hv N58 D58 s1_58 s2_58 s6_58 s8_58 s57_58 s47_58
 refine tail_nil ?_
 refine round_step ?_
 refine wp_seq ?_
 refine Rl [] [(48, Pr.ex (Value.bool (true)))] 1 N59 D59 ?_ ?_
 refine Ac ?_ (Az _)
 exact Ap fun aq wq _ hO hR hT => does_lss (a := ((1 : Nat) : Int)) (b := ((8 : Nat) : Int)) (oT hO s47_59 rfl) rfl eR
 intro a60 wd60 N60 D60 hO hR hA hU
 obtain ⟨t48, _⟩ := hA
 have E60 := E58.trans hR
 have s1_60 := oT hO s1_59 rfl
 have s2_60 := oT hO s2_59 rfl
 have s6_60 := oT hO s6_59 rfl
 have s8_60 := oT hO s8_59 rfl
 have s47_60 := oT hO s47_59 rfl
 have B1_60 := B1_58.ext' hR
 have B2_60 := B2_58.ext' hR
 have B6_60 := B6_58.ext' hR
 have s48_60 : get a60 48 = Value.bool (true) := t48
 clear E58 N59 D59 s1_59 s2_59 s6_59 s8_59 s47_59 B1_58 B2_58 B6_58
 refine tail_nil ?_
 refine wp_seq ?_
 refine wp_ifT s48_60 ?_
 refine wp_skip ?_
 refine wp_seq ?_
 refine wp_block ?_
 refine wp_seq ?_
 refine Rl [] [(49, Pr.ex (i64 ((1 : Nat) : Int))), (7, Pr.ex (i64 ((1 : Nat) : Int)))] 2 N60 D60 ?_ ?_
 refine Ac ?_ (Ac ?_ (Az _))
 exact Am s47_60 rfl fun _ => rfl
 exact Ap fun aq wq _ hO hR hT => does_assign (V := i64 ((1 : Nat) : Int)) (hT 49 rfl rfl) eR
 intro a61 wd61 N61 D61 hO hR hA hU
 obtain ⟨_, t7, _⟩ := hA
 have E61 := E60.trans hR
 have s1_61 := oT hO s1_60 rfl
 have s2_61 := oT hO s2_60 rfl
 have s6_61 := oT hO s6_60 rfl
 have s8_61 := oT hO s8_60 rfl
 have s47_61 := oT hO s47_60 rfl
 have B1_61 := B1_60.ext' hR
 have B2_61 := B2_60.ext' hR
 have B6_61 := B6_60.ext' hR
 have s7_61 : get a61 7 = i64 ((1 : Nat) : Int) := t7
 clear E60 N60 D60 s1_60 s2_60 s6_60 s8_60 s47_60 s48_60 B1_60 B2_60 B6_60
 refine tail_nil ?_
 refine Rl [] [(50, Pr.ex (i64 ((1 : Nat) : Int))), (51, Pr.ex (i64 ((1 : Nat) : Int))), (52, Pr.ex (i64 ((4 : Nat) : Int))), (53, Pr.ex (i64 ((4 : Nat) : Int))), (54, Pr.ex (Value.pointer (some ⟨b6, 4, none⟩))), (55, Pr.ex (w32 (v17))), (56, Pr.ex (Value.pointer (some ⟨b1, 1, none⟩)))] 7 N61 D61 ?_ ?_
 refine Ac ?_ (Ac ?_ (Ac ?_ (Ac ?_ (Ac ?_ (Ac ?_ (Ac ?_ (Az _)))))))
 exact Am s7_61 rfl fun _ => rfl
 exact Am s7_61 rfl fun _ => rfl
 exact Ap fun aq wq _ hO hR hT => does_add (a := ((1 : Nat) : Int)) (b := ((3 : Nat) : Int)) (r := ((4 : Nat) : Int)) (hT 51 rfl rfl) rfl (by decide) (by decide) (by decide) eR
 exact Ap fun aq wq _ hO hR hT => does_rem (k := .i64) (a := ((4 : Nat) : Int)) (b := ((8 : Nat) : Int)) (r := ((4 : Nat) : Int)) (hT 52 rfl rfl) rfl (by decide) (by decide) (by decide) eR
 exact Ap fun aq wq _ hO hR hT => does_indexArr (k := .i64) (i := 4) (o' := 4) arr_75 (oT hO s6_61 rfl) (hT 53 rfl rfl) (by decide) (by decide) rfl eR
 exact Ap fun aq wq _ hO hR hT => does_loadD1 (o := 4) (V := w32 (v17)) (hT 54 rfl rfl) (B6_61.ext' hR) rfl one_22 eR
 exact Ap fun aq wq _ hO hR hT => does_indexArr (k := .i64) (i := 1) (o' := 1) arr_75 (oT hO s1_61 rfl) (hT 50 rfl rfl) (by decide) (by decide) rfl eR
 intro a62 wd62 N62 D62 hO hR hA hU
 obtain ⟨_, _, _, _, _, t55, t56, _⟩ := hA
 have E62 := E61.trans hR
 have s1_62 := oT hO s1_61 rfl
 have s2_62 := oT hO s2_61 rfl
 have s6_62 := oT hO s6_61 rfl
 have s8_62 := oT hO s8_61 rfl
 have s47_62 := oT hO s47_61 rfl
 have B1_62 := B1_61.ext' hR
 have B2_62 := B2_61.ext' hR
 have B6_62 := B6_61.ext' hR
 have s55_62 : get a62 55 = w32 (v17) := t55
 have s56_62 : get a62 56 = Value.pointer (some ⟨b1, 1, none⟩) := t56
 clear E61 N61 D61 s1_61 s2_61 s6_61 s7_61 s8_61 s47_61 B1_61 B2_61 B6_61
 refine tail_none rfl rfl (does_storeD (o := 1) (n := 1) (cs' := [w32 (v44), w32 (v17), w32 (v34), w32 (v44), w32 (v17), w32 (v27), w32 (v37), w32 (v47)]) (V := w32 (v17)) s56_62 s55_62 B1_62 (nB rfl) rfl siz_22 rfl rfl (fun wd63 hX hz B1_63 => ?_))
 have E63 := E62.since hX (fun k e => e ▸ fr_b1)
 have B2_63 := B2_62.ext hX ne_b1_b2.symm
 have B6_63 := B6_62.ext hX ne_b1_b6.symm
 clear hX hz E62 B1_62 B2_62 B6_62
 refine tail_nil ?_
 refine Rl [] [(57, Pr.ex (i64 ((2 : Nat) : Int)))] 1 N62 D62 ?_ ?_
 refine Ac ?_ (Az _)
 exact Ap fun aq wq _ hO hR hT => does_add (a := ((1 : Nat) : Int)) (b := ((1 : Nat) : Int)) (r := ((2 : Nat) : Int)) (oT hO s47_62 rfl) rfl (by decide) (by decide) (by decide) eR
 intro a64 wd64 N64 D64 hO hR hA hU
 obtain ⟨t57, _⟩ := hA
 have E64 := E63.trans hR
 have s1_64 := oT hO s1_62 rfl
 have s2_64 := oT hO s2_62 rfl
 have s6_64 := oT hO s6_62 rfl
 have s8_64 := oT hO s8_62 rfl
 have s47_64 := oT hO s47_62 rfl
 have B1_64 := B1_63.ext' hR
 have B2_64 := B2_63.ext' hR
 have B6_64 := B6_63.ext' hR
 have s57_64 : get a64 57 = i64 ((2 : Nat) : Int) := t57
 clear E63 N62 D62 s1_62 s2_62 s6_62 s8_62 s47_62 s55_62 s56_62 B1_63 B2_63 B6_63
 refine tail_put rfl rfl N64 D64 (by decide) (does_move (V := i64 ((2 : Nat) : Int)) s57_64 (fun a65 N65 D65 hv hO => ?_))
 have s47_65 := hv
 have s1_65 := oT hO s1_64 rfl
 have s2_65 := oT hO s2_64 rfl
 have s6_65 := oT hO s6_64 rfl
 have s8_65 := oT hO s8_64 rfl
 clear hO hv N64 D64 s1_64 s2_64 s6_64 s8_64 s57_64 s47_64
 refine tail_nil ?_
 refine round_step ?_
 refine wp_seq ?_
 refine Rl [] [(48, Pr.ex (Value.bool (true)))] 1 N65 D65 ?_ ?_
 refine Ac ?_ (Az _)
 exact Ap fun aq wq _ hO hR hT => does_lss (a := ((2 : Nat) : Int)) (b := ((8 : Nat) : Int)) (oT hO s47_65 rfl) rfl eR
 intro a66 wd66 N66 D66 hO hR hA hU
 obtain ⟨t48, _⟩ := hA
 have E66 := E64.trans hR
 have s1_66 := oT hO s1_65 rfl
 have s2_66 := oT hO s2_65 rfl
 have s6_66 := oT hO s6_65 rfl
 have s8_66 := oT hO s8_65 rfl
 have s47_66 := oT hO s47_65 rfl
 have B1_66 := B1_64.ext' hR
 have B2_66 := B2_64.ext' hR
 have B6_66 := B6_64.ext' hR
 have s48_66 : get a66 48 = Value.bool (true) := t48
 clear E64 N65 D65 s1_65 s2_65 s6_65 s8_65 s47_65 B1_64 B2_64 B6_64
 refine tail_nil ?_
 refine wp_seq ?_
 refine wp_ifT s48_66 ?_
 refine wp_skip ?_
 refine wp_seq ?_
 refine wp_block ?_
 refine wp_seq ?_
 refine Rl [] [(49, Pr.ex (i64 ((2 : Nat) : Int))), (7, Pr.ex (i64 ((2 : Nat) : Int)))] 2 N66 D66 ?_ ?_
 refine Ac ?_ (Ac ?_ (Az _))
 exact Am s47_66 rfl fun _ => rfl
 exact Ap fun aq wq _ hO hR hT => does_assign (V := i64 ((2 : Nat) : Int)) (hT 49 rfl rfl) eR
 intro a67 wd67 N67 D67 hO hR hA hU
 obtain ⟨_, t7, _⟩ := hA
 have E67 := E66.trans hR
 have s1_67 := oT hO s1_66 rfl
 have s2_67 := oT hO s2_66 rfl
 have s6_67 := oT hO s6_66 rfl
 have s8_67 := oT hO s8_66 rfl
 have s47_67 := oT hO s47_66 rfl
 have B1_67 := B1_66.ext' hR
 have B2_67 := B2_66.ext' hR
 have B6_67 := B6_66.ext' hR
 have s7_67 : get a67 7 = i64 ((2 : Nat) : Int) := t7
 clear E66 N66 D66 s1_66 s2_66 s6_66 s8_66 s47_66 s48_66 B1_66 B2_66 B6_66
 refine tail_nil ?_
 refine Rl [] [(50, Pr.ex (i64 ((2 : Nat) : Int))), (51, Pr.ex (i64 ((2 : Nat) : Int))), (52, Pr.ex (i64 ((5 : Nat) : Int))), (53, Pr.ex (i64 ((5 : Nat) : Int))), (54, Pr.ex (Value.pointer (some ⟨b6, 5, none⟩))), (55, Pr.ex (w32 (v27))), (56, Pr.ex (Value.pointer (some ⟨b1, 2, none⟩)))] 7 N67 D67 ?_ ?_
 refine Ac ?_ (Ac ?_ (Ac ?_ (Ac ?_ (Ac ?_ (Ac ?_ (Ac ?_ (Az _)))))))
 exact Am s7_67 rfl fun _ => rfl
 exact Am s7_67 rfl fun _ => rfl
 exact Ap fun aq wq _ hO hR hT => does_add (a := ((2 : Nat) : Int)) (b := ((3 : Nat) : Int)) (r := ((5 : Nat) : Int)) (hT 51 rfl rfl) rfl (by decide) (by decide) (by decide) eR
 exact Ap fun aq wq _ hO hR hT => does_rem (k := .i64) (a := ((5 : Nat) : Int)) (b := ((8 : Nat) : Int)) (r := ((5 : Nat) : Int)) (hT 52 rfl rfl) rfl (by decide) (by decide) (by decide) eR
 exact Ap fun aq wq _ hO hR hT => does_indexArr (k := .i64) (i := 5) (o' := 5) arr_75 (oT hO s6_67 rfl) (hT 53 rfl rfl) (by decide) (by decide) rfl eR
 exact Ap fun aq wq _ hO hR hT => does_loadD1 (o := 5) (V := w32 (v27)) (hT 54 rfl rfl) (B6_67.ext' hR) rfl one_22 eR
 exact Ap fun aq wq _ hO hR hT => does_indexArr (k := .i64) (i := 2) (o' := 2) arr_75 (oT hO s1_67 rfl) (hT 50 rfl rfl) (by decide) (by decide) rfl eR
 intro a68 wd68 N68 D68 hO hR hA hU
 obtain ⟨_, _, _, _, _, t55, t56, _⟩ := hA
 have E68 := E67.trans hR
 have s1_68 := oT hO s1_67 rfl
 have s2_68 := oT hO s2_67 rfl
 have s6_68 := oT hO s6_67 rfl
 have s8_68 := oT hO s8_67 rfl
 have s47_68 := oT hO s47_67 rfl
 have B1_68 := B1_67.ext' hR
 have B2_68 := B2_67.ext' hR
 have B6_68 := B6_67.ext' hR
 have s55_68 : get a68 55 = w32 (v27) := t55
 have s56_68 : get a68 56 = Value.pointer (some ⟨b1, 2, none⟩) := t56
 clear E67 N67 D67 s1_67 s2_67 s6_67 s7_67 s8_67 s47_67 B1_67 B2_67 B6_67
 refine tail_none rfl rfl (does_storeD (o := 2) (n := 1) (cs' := [w32 (v44), w32 (v17), w32 (v27), w32 (v44), w32 (v17), w32 (v27), w32 (v37), w32 (v47)]) (V := w32 (v27)) s56_68 s55_68 B1_68 (nB rfl) rfl siz_22 rfl rfl (fun wd69 hX hz B1_69 => ?_))
 have E69 := E68.since hX (fun k e => e ▸ fr_b1)
 have B2_69 := B2_68.ext hX ne_b1_b2.symm
 have B6_69 := B6_68.ext hX ne_b1_b6.symm
 clear hX hz E68 B1_68 B2_68 B6_68
 refine tail_nil ?_
 refine Rl [] [(57, Pr.ex (i64 ((3 : Nat) : Int)))] 1 N68 D68 ?_ ?_
 refine Ac ?_ (Az _)
 exact Ap fun aq wq _ hO hR hT => does_add (a := ((2 : Nat) : Int)) (b := ((1 : Nat) : Int)) (r := ((3 : Nat) : Int)) (oT hO s47_68 rfl) rfl (by decide) (by decide) (by decide) eR
 intro a70 wd70 N70 D70 hO hR hA hU
 obtain ⟨t57, _⟩ := hA
 have E70 := E69.trans hR
 have s1_70 := oT hO s1_68 rfl
 have s2_70 := oT hO s2_68 rfl
 have s6_70 := oT hO s6_68 rfl
 have s8_70 := oT hO s8_68 rfl
 have s47_70 := oT hO s47_68 rfl
 have B1_70 := B1_69.ext' hR
 have B2_70 := B2_69.ext' hR
 have B6_70 := B6_69.ext' hR
 have s57_70 : get a70 57 = i64 ((3 : Nat) : Int) := t57
 clear E69 N68 D68 s1_68 s2_68 s6_68 s8_68 s47_68 s55_68 s56_68 B1_69 B2_69 B6_69
 refine tail_put rfl rfl N70 D70 (by decide) (does_move (V := i64 ((3 : Nat) : Int)) s57_70 (fun a71 N71 D71 hv hO => ?_))
 have s47_71 := hv
 have s1_71 := oT hO s1_70 rfl
 have s2_71 := oT hO s2_70 rfl
 have s6_71 := oT hO s6_70 rfl
 have s8_71 := oT hO s8_70 rfl
 clear hO hv N70 D70 s1_70 s2_70 s6_70 s8_70 s57_70 s47_70
 refine tail_nil ?_
 refine round_step ?_
 refine wp_seq ?_
 refine Rl [] [(48, Pr.ex (Value.bool (true)))] 1 N71 D71 ?_ ?_
 refine Ac ?_ (Az _)
 exact Ap fun aq wq _ hO hR hT => does_lss (a := ((3 : Nat) : Int)) (b := ((8 : Nat) : Int)) (oT hO s47_71 rfl) rfl eR
 intro a72 wd72 N72 D72 hO hR hA hU
 obtain ⟨t48, _⟩ := hA
 have E72 := E70.trans hR
 have s1_72 := oT hO s1_71 rfl
 have s2_72 := oT hO s2_71 rfl
 have s6_72 := oT hO s6_71 rfl
 have s8_72 := oT hO s8_71 rfl
 have s47_72 := oT hO s47_71 rfl
 have B1_72 := B1_70.ext' hR
 have B2_72 := B2_70.ext' hR
 have B6_72 := B6_70.ext' hR
 have s48_72 : get a72 48 = Value.bool (true) := t48
 clear E70 N71 D71 s1_71 s2_71 s6_71 s8_71 s47_71 B1_70 B2_70 B6_70
 refine tail_nil ?_
 refine wp_seq ?_
 refine wp_ifT s48_72 ?_
 refine wp_skip ?_
 refine wp_seq ?_
 refine wp_block ?_
 refine wp_seq ?_
 refine Rl [] [(49, Pr.ex (i64 ((3 : Nat) : Int))), (7, Pr.ex (i64 ((3 : Nat) : Int)))] 2 N72 D72 ?_ ?_
 refine Ac ?_ (Ac ?_ (Az _))
 exact Am s47_72 rfl fun _ => rfl
 exact Ap fun aq wq _ hO hR hT => does_assign (V := i64 ((3 : Nat) : Int)) (hT 49 rfl rfl) eR
 intro a73 wd73 N73 D73 hO hR hA hU
 obtain ⟨_, t7, _⟩ := hA
 have E73 := E72.trans hR
 have s1_73 := oT hO s1_72 rfl
 have s2_73 := oT hO s2_72 rfl
 have s6_73 := oT hO s6_72 rfl
 have s8_73 := oT hO s8_72 rfl
 have s47_73 := oT hO s47_72 rfl
 have B1_73 := B1_72.ext' hR
 have B2_73 := B2_72.ext' hR
 have B6_73 := B6_72.ext' hR
 have s7_73 : get a73 7 = i64 ((3 : Nat) : Int) := t7
 clear E72 N72 D72 s1_72 s2_72 s6_72 s8_72 s47_72 s48_72 B1_72 B2_72 B6_72
 refine tail_nil ?_
 refine Rl [] [(50, Pr.ex (i64 ((3 : Nat) : Int))), (51, Pr.ex (i64 ((3 : Nat) : Int))), (52, Pr.ex (i64 ((6 : Nat) : Int))), (53, Pr.ex (i64 ((6 : Nat) : Int))), (54, Pr.ex (Value.pointer (some ⟨b6, 6, none⟩))), (55, Pr.ex (w32 (v37))), (56, Pr.ex (Value.pointer (some ⟨b1, 3, none⟩)))] 7 N73 D73 ?_ ?_
 refine Ac ?_ (Ac ?_ (Ac ?_ (Ac ?_ (Ac ?_ (Ac ?_ (Ac ?_ (Az _)))))))
 exact Am s7_73 rfl fun _ => rfl
 exact Am s7_73 rfl fun _ => rfl
 exact Ap fun aq wq _ hO hR hT => does_add (a := ((3 : Nat) : Int)) (b := ((3 : Nat) : Int)) (r := ((6 : Nat) : Int)) (hT 51 rfl rfl) rfl (by decide) (by decide) (by decide) eR
 exact Ap fun aq wq _ hO hR hT => does_rem (k := .i64) (a := ((6 : Nat) : Int)) (b := ((8 : Nat) : Int)) (r := ((6 : Nat) : Int)) (hT 52 rfl rfl) rfl (by decide) (by decide) (by decide) eR
 exact Ap fun aq wq _ hO hR hT => does_indexArr (k := .i64) (i := 6) (o' := 6) arr_75 (oT hO s6_73 rfl) (hT 53 rfl rfl) (by decide) (by decide) rfl eR
 exact Ap fun aq wq _ hO hR hT => does_loadD1 (o := 6) (V := w32 (v37)) (hT 54 rfl rfl) (B6_73.ext' hR) rfl one_22 eR
 exact Ap fun aq wq _ hO hR hT => does_indexArr (k := .i64) (i := 3) (o' := 3) arr_75 (oT hO s1_73 rfl) (hT 50 rfl rfl) (by decide) (by decide) rfl eR
 intro a74 wd74 N74 D74 hO hR hA hU
 obtain ⟨_, _, _, _, _, t55, t56, _⟩ := hA
 have E74 := E73.trans hR
 have s1_74 := oT hO s1_73 rfl
 have s2_74 := oT hO s2_73 rfl
 have s6_74 := oT hO s6_73 rfl
 have s8_74 := oT hO s8_73 rfl
 have s47_74 := oT hO s47_73 rfl
 have B1_74 := B1_73.ext' hR
 have B2_74 := B2_73.ext' hR
 have B6_74 := B6_73.ext' hR
 have s55_74 : get a74 55 = w32 (v37) := t55
 have s56_74 : get a74 56 = Value.pointer (some ⟨b1, 3, none⟩) := t56
 clear E73 N73 D73 s1_73 s2_73 s6_73 s7_73 s8_73 s47_73 B1_73 B2_73 B6_73
 refine tail_none rfl rfl (does_storeD (o := 3) (n := 1) (cs' := [w32 (v44), w32 (v17), w32 (v27), w32 (v37), w32 (v17), w32 (v27), w32 (v37), w32 (v47)]) (V := w32 (v37)) s56_74 s55_74 B1_74 (nB rfl) rfl siz_22 rfl rfl (fun wd75 hX hz B1_75 => ?_))
 have E75 := E74.since hX (fun k e => e ▸ fr_b1)
 have B2_75 := B2_74.ext hX ne_b1_b2.symm
 have B6_75 := B6_74.ext hX ne_b1_b6.symm
 clear hX hz E74 B1_74 B2_74 B6_74
 refine tail_nil ?_
 refine Rl [] [(57, Pr.ex (i64 ((4 : Nat) : Int)))] 1 N74 D74 ?_ ?_
 refine Ac ?_ (Az _)
 exact Ap fun aq wq _ hO hR hT => does_add (a := ((3 : Nat) : Int)) (b := ((1 : Nat) : Int)) (r := ((4 : Nat) : Int)) (oT hO s47_74 rfl) rfl (by decide) (by decide) (by decide) eR
 intro a76 wd76 N76 D76 hO hR hA hU
 obtain ⟨t57, _⟩ := hA
 have E76 := E75.trans hR
 have s1_76 := oT hO s1_74 rfl
 have s2_76 := oT hO s2_74 rfl
 have s6_76 := oT hO s6_74 rfl
 have s8_76 := oT hO s8_74 rfl
 have s47_76 := oT hO s47_74 rfl
 have B1_76 := B1_75.ext' hR
 have B2_76 := B2_75.ext' hR
 have B6_76 := B6_75.ext' hR
 have s57_76 : get a76 57 = i64 ((4 : Nat) : Int) := t57
 clear E75 N74 D74 s1_74 s2_74 s6_74 s8_74 s47_74 s55_74 s56_74 B1_75 B2_75 B6_75
 refine tail_put rfl rfl N76 D76 (by decide) (does_move (V := i64 ((4 : Nat) : Int)) s57_76 (fun a77 N77 D77 hv hO => ?_))
 have s47_77 := hv
 have s1_77 := oT hO s1_76 rfl
 have s2_77 := oT hO s2_76 rfl
 have s6_77 := oT hO s6_76 rfl
 have s8_77 := oT hO s8_76 rfl
 clear hO hv N76 D76 s1_76 s2_76 s6_76 s8_76 s57_76 s47_76
 refine tail_nil ?_
 refine round_step ?_
 refine wp_seq ?_
 refine Rl [] [(48, Pr.ex (Value.bool (true)))] 1 N77 D77 ?_ ?_
 refine Ac ?_ (Az _)
 exact Ap fun aq wq _ hO hR hT => does_lss (a := ((4 : Nat) : Int)) (b := ((8 : Nat) : Int)) (oT hO s47_77 rfl) rfl eR
 intro a78 wd78 N78 D78 hO hR hA hU
 obtain ⟨t48, _⟩ := hA
 have E78 := E76.trans hR
 have s1_78 := oT hO s1_77 rfl
 have s2_78 := oT hO s2_77 rfl
 have s6_78 := oT hO s6_77 rfl
 have s8_78 := oT hO s8_77 rfl
 have s47_78 := oT hO s47_77 rfl
 have B1_78 := B1_76.ext' hR
 have B2_78 := B2_76.ext' hR
 have B6_78 := B6_76.ext' hR
 have s48_78 : get a78 48 = Value.bool (true) := t48
 clear E76 N77 D77 s1_77 s2_77 s6_77 s8_77 s47_77 B1_76 B2_76 B6_76
 refine tail_nil ?_
 refine wp_seq ?_
 refine wp_ifT s48_78 ?_
 refine wp_skip ?_
 refine wp_seq ?_
 refine wp_block ?_
 refine wp_seq ?_
 refine Rl [] [(49, Pr.ex (i64 ((4 : Nat) : Int))), (7, Pr.ex (i64 ((4 : Nat) : Int)))] 2 N78 D78 ?_ ?_
 refine Ac ?_ (Ac ?_ (Az _))
 exact Am s47_78 rfl fun _ => rfl
 exact Ap fun aq wq _ hO hR hT => does_assign (V := i64 ((4 : Nat) : Int)) (hT 49 rfl rfl) eR
 intro a79 wd79 N79 D79 hO hR hA hU
 obtain ⟨_, t7, _⟩ := hA
 have E79 := E78.trans hR
 have s1_79 := oT hO s1_78 rfl
 have s2_79 := oT hO s2_78 rfl
 have s6_79 := oT hO s6_78 rfl
 have s8_79 := oT hO s8_78 rfl
 have s47_79 := oT hO s47_78 rfl
 have B1_79 := B1_78.ext' hR
 have B2_79 := B2_78.ext' hR
 have B6_79 := B6_78.ext' hR
 have s7_79 : get a79 7 = i64 ((4 : Nat) : Int) := t7
 clear E78 N78 D78 s1_78 s2_78 s6_78 s8_78 s47_78 s48_78 B1_78 B2_78 B6_78
 refine tail_nil ?_
 refine Rl [] [(50, Pr.ex (i64 ((4 : Nat) : Int))), (51, Pr.ex (i64 ((4 : Nat) : Int))), (52, Pr.ex (i64 ((7 : Nat) : Int))), (53, Pr.ex (i64 ((7 : Nat) : Int))), (54, Pr.ex (Value.pointer (some ⟨b6, 7, none⟩))), (55, Pr.ex (w32 (v47))), (56, Pr.ex (Value.pointer (some ⟨b1, 4, none⟩)))] 7 N79 D79 ?_ ?_
 refine Ac ?_ (Ac ?_ (Ac ?_ (Ac ?_ (Ac ?_ (Ac ?_ (Ac ?_ (Az _)))))))
 exact Am s7_79 rfl fun _ => rfl
 exact Am s7_79 rfl fun _ => rfl
 exact Ap fun aq wq _ hO hR hT => does_add (a := ((4 : Nat) : Int)) (b := ((3 : Nat) : Int)) (r := ((7 : Nat) : Int)) (hT 51 rfl rfl) rfl (by decide) (by decide) (by decide) eR
 exact Ap fun aq wq _ hO hR hT => does_rem (k := .i64) (a := ((7 : Nat) : Int)) (b := ((8 : Nat) : Int)) (r := ((7 : Nat) : Int)) (hT 52 rfl rfl) rfl (by decide) (by decide) (by decide) eR
 exact Ap fun aq wq _ hO hR hT => does_indexArr (k := .i64) (i := 7) (o' := 7) arr_75 (oT hO s6_79 rfl) (hT 53 rfl rfl) (by decide) (by decide) rfl eR
 exact Ap fun aq wq _ hO hR hT => does_loadD1 (o := 7) (V := w32 (v47)) (hT 54 rfl rfl) (B6_79.ext' hR) rfl one_22 eR
 exact Ap fun aq wq _ hO hR hT => does_indexArr (k := .i64) (i := 4) (o' := 4) arr_75 (oT hO s1_79 rfl) (hT 50 rfl rfl) (by decide) (by decide) rfl eR
 intro a80 wd80 N80 D80 hO hR hA hU
 obtain ⟨_, _, _, _, _, t55, t56, _⟩ := hA
 have E80 := E79.trans hR
 have s1_80 := oT hO s1_79 rfl
 have s2_80 := oT hO s2_79 rfl
 have s6_80 := oT hO s6_79 rfl
 have s8_80 := oT hO s8_79 rfl
 have s47_80 := oT hO s47_79 rfl
 have B1_80 := B1_79.ext' hR
 have B2_80 := B2_79.ext' hR
 have B6_80 := B6_79.ext' hR
 have s55_80 : get a80 55 = w32 (v47) := t55
 have s56_80 : get a80 56 = Value.pointer (some ⟨b1, 4, none⟩) := t56
 clear E79 N79 D79 s1_79 s2_79 s6_79 s7_79 s8_79 s47_79 B1_79 B2_79 B6_79
 refine tail_none rfl rfl (does_storeD (o := 4) (n := 1) (cs' := [w32 (v44), w32 (v17), w32 (v27), w32 (v37), w32 (v47), w32 (v27), w32 (v37), w32 (v47)]) (V := w32 (v47)) s56_80 s55_80 B1_80 (nB rfl) rfl siz_22 rfl rfl (fun wd81 hX hz B1_81 => ?_))
 have E81 := E80.since hX (fun k e => e ▸ fr_b1)
 have B2_81 := B2_80.ext hX ne_b1_b2.symm
 have B6_81 := B6_80.ext hX ne_b1_b6.symm
 clear hX hz E80 B1_80 B2_80 B6_80
 refine tail_nil ?_
 refine Rl [] [(57, Pr.ex (i64 ((5 : Nat) : Int)))] 1 N80 D80 ?_ ?_
 refine Ac ?_ (Az _)
 exact Ap fun aq wq _ hO hR hT => does_add (a := ((4 : Nat) : Int)) (b := ((1 : Nat) : Int)) (r := ((5 : Nat) : Int)) (oT hO s47_80 rfl) rfl (by decide) (by decide) (by decide) eR
 intro a82 wd82 N82 D82 hO hR hA hU
 obtain ⟨t57, _⟩ := hA
 have E82 := E81.trans hR
 have s1_82 := oT hO s1_80 rfl
 have s2_82 := oT hO s2_80 rfl
 have s6_82 := oT hO s6_80 rfl
 have s8_82 := oT hO s8_80 rfl
 have s47_82 := oT hO s47_80 rfl
 have B1_82 := B1_81.ext' hR
 have B2_82 := B2_81.ext' hR
 have B6_82 := B6_81.ext' hR
 have s57_82 : get a82 57 = i64 ((5 : Nat) : Int) := t57
 clear E81 N80 D80 s1_80 s2_80 s6_80 s8_80 s47_80 s55_80 s56_80 B1_81 B2_81 B6_81
 refine tail_put rfl rfl N82 D82 (by decide) (does_move (V := i64 ((5 : Nat) : Int)) s57_82 (fun a83 N83 D83 hv hO => ?_))
 have s47_83 := hv
 have s1_83 := oT hO s1_82 rfl
 have s2_83 := oT hO s2_82 rfl
 have s6_83 := oT hO s6_82 rfl
 have s8_83 := oT hO s8_82 rfl
 clear hO hv N82 D82 s1_82 s2_82 s6_82 s8_82 s57_82 s47_82
 refine tail_nil ?_
 refine round_step ?_
 refine wp_seq ?_
 refine Rl [] [(48, Pr.ex (Value.bool (true)))] 1 N83 D83 ?_ ?_
 refine Ac ?_ (Az _)
 exact Ap fun aq wq _ hO hR hT => does_lss (a := ((5 : Nat) : Int)) (b := ((8 : Nat) : Int)) (oT hO s47_83 rfl) rfl eR
 intro a84 wd84 N84 D84 hO hR hA hU
 obtain ⟨t48, _⟩ := hA
 have E84 := E82.trans hR
 have s1_84 := oT hO s1_83 rfl
 have s2_84 := oT hO s2_83 rfl
 have s6_84 := oT hO s6_83 rfl
 have s8_84 := oT hO s8_83 rfl
 have s47_84 := oT hO s47_83 rfl
 have B1_84 := B1_82.ext' hR
 have B2_84 := B2_82.ext' hR
 have B6_84 := B6_82.ext' hR
 have s48_84 : get a84 48 = Value.bool (true) := t48
 clear E82 N83 D83 s1_83 s2_83 s6_83 s8_83 s47_83 B1_82 B2_82 B6_82
 refine tail_nil ?_
 refine wp_seq ?_
 refine wp_ifT s48_84 ?_
 refine wp_skip ?_
 refine wp_seq ?_
 refine wp_block ?_
 refine wp_seq ?_
 refine Rl [] [(49, Pr.ex (i64 ((5 : Nat) : Int))), (7, Pr.ex (i64 ((5 : Nat) : Int)))] 2 N84 D84 ?_ ?_
 refine Ac ?_ (Ac ?_ (Az _))
 exact Am s47_84 rfl fun _ => rfl
 exact Ap fun aq wq _ hO hR hT => does_assign (V := i64 ((5 : Nat) : Int)) (hT 49 rfl rfl) eR
 intro a85 wd85 N85 D85 hO hR hA hU
 obtain ⟨_, t7, _⟩ := hA
 have E85 := E84.trans hR
 have s1_85 := oT hO s1_84 rfl
 have s2_85 := oT hO s2_84 rfl
 have s6_85 := oT hO s6_84 rfl
 have s8_85 := oT hO s8_84 rfl
 have s47_85 := oT hO s47_84 rfl
 have B1_85 := B1_84.ext' hR
 have B2_85 := B2_84.ext' hR
 have B6_85 := B6_84.ext' hR
 have s7_85 : get a85 7 = i64 ((5 : Nat) : Int) := t7
 clear E84 N84 D84 s1_84 s2_84 s6_84 s8_84 s47_84 s48_84 B1_84 B2_84 B6_84
 refine tail_nil ?_
 refine Rl [] [(50, Pr.ex (i64 ((5 : Nat) : Int))), (51, Pr.ex (i64 ((5 : Nat) : Int))), (52, Pr.ex (i64 ((8 : Nat) : Int))), (53, Pr.ex (i64 ((0 : Nat) : Int))), (54, Pr.ex (Value.pointer (some ⟨b6, 0, none⟩))), (55, Pr.ex (w32 (v14))), (56, Pr.ex (Value.pointer (some ⟨b1, 5, none⟩)))] 7 N85 D85 ?_ ?_
 refine Ac ?_ (Ac ?_ (Ac ?_ (Ac ?_ (Ac ?_ (Ac ?_ (Ac ?_ (Az _)))))))
 exact Am s7_85 rfl fun _ => rfl
 exact Am s7_85 rfl fun _ => rfl
 exact Ap fun aq wq _ hO hR hT => does_add (a := ((5 : Nat) : Int)) (b := ((3 : Nat) : Int)) (r := ((8 : Nat) : Int)) (hT 51 rfl rfl) rfl (by decide) (by decide) (by decide) eR
 exact Ap fun aq wq _ hO hR hT => does_rem (k := .i64) (a := ((8 : Nat) : Int)) (b := ((8 : Nat) : Int)) (r := ((0 : Nat) : Int)) (hT 52 rfl rfl) rfl (by decide) (by decide) (by decide) eR
 exact Ap fun aq wq _ hO hR hT => does_indexArr (k := .i64) (i := 0) (o' := 0) arr_75 (oT hO s6_85 rfl) (hT 53 rfl rfl) (by decide) (by decide) rfl eR
 exact Ap fun aq wq _ hO hR hT => does_loadD1 (o := 0) (V := w32 (v14)) (hT 54 rfl rfl) (B6_85.ext' hR) rfl one_22 eR
 exact Ap fun aq wq _ hO hR hT => does_indexArr (k := .i64) (i := 5) (o' := 5) arr_75 (oT hO s1_85 rfl) (hT 50 rfl rfl) (by decide) (by decide) rfl eR
 intro a86 wd86 N86 D86 hO hR hA hU
 obtain ⟨_, _, _, _, _, t55, t56, _⟩ := hA
 have E86 := E85.trans hR
 have s1_86 := oT hO s1_85 rfl
 have s2_86 := oT hO s2_85 rfl
 have s6_86 := oT hO s6_85 rfl
 have s8_86 := oT hO s8_85 rfl
 have s47_86 := oT hO s47_85 rfl
 have B1_86 := B1_85.ext' hR
 have B2_86 := B2_85.ext' hR
 have B6_86 := B6_85.ext' hR
 have s55_86 : get a86 55 = w32 (v14) := t55
 have s56_86 : get a86 56 = Value.pointer (some ⟨b1, 5, none⟩) := t56
 clear E85 N85 D85 s1_85 s2_85 s6_85 s7_85 s8_85 s47_85 B1_85 B2_85 B6_85
 refine tail_none rfl rfl (does_storeD (o := 5) (n := 1) (cs' := [w32 (v44), w32 (v17), w32 (v27), w32 (v37), w32 (v47), w32 (v14), w32 (v37), w32 (v47)]) (V := w32 (v14)) s56_86 s55_86 B1_86 (nB rfl) rfl siz_22 rfl rfl (fun wd87 hX hz B1_87 => ?_))
 have E87 := E86.since hX (fun k e => e ▸ fr_b1)
 have B2_87 := B2_86.ext hX ne_b1_b2.symm
 have B6_87 := B6_86.ext hX ne_b1_b6.symm
 clear hX hz E86 B1_86 B2_86 B6_86
 refine tail_nil ?_
 refine Rl [] [(57, Pr.ex (i64 ((6 : Nat) : Int)))] 1 N86 D86 ?_ ?_
 refine Ac ?_ (Az _)
 exact Ap fun aq wq _ hO hR hT => does_add (a := ((5 : Nat) : Int)) (b := ((1 : Nat) : Int)) (r := ((6 : Nat) : Int)) (oT hO s47_86 rfl) rfl (by decide) (by decide) (by decide) eR
 intro a88 wd88 N88 D88 hO hR hA hU
 obtain ⟨t57, _⟩ := hA
 have E88 := E87.trans hR
 have s1_88 := oT hO s1_86 rfl
 have s2_88 := oT hO s2_86 rfl
 have s6_88 := oT hO s6_86 rfl
 have s8_88 := oT hO s8_86 rfl
 have s47_88 := oT hO s47_86 rfl
 have B1_88 := B1_87.ext' hR
 have B2_88 := B2_87.ext' hR
 have B6_88 := B6_87.ext' hR
 have s57_88 : get a88 57 = i64 ((6 : Nat) : Int) := t57
 clear E87 N86 D86 s1_86 s2_86 s6_86 s8_86 s47_86 s55_86 s56_86 B1_87 B2_87 B6_87
 refine tail_put rfl rfl N88 D88 (by decide) (does_move (V := i64 ((6 : Nat) : Int)) s57_88 (fun a89 N89 D89 hv hO => ?_))
 have s47_89 := hv
 have s1_89 := oT hO s1_88 rfl
 have s2_89 := oT hO s2_88 rfl
 have s6_89 := oT hO s6_88 rfl
 have s8_89 := oT hO s8_88 rfl
 clear hO hv N88 D88 s1_88 s2_88 s6_88 s8_88 s57_88 s47_88
 refine tail_nil ?_
 refine round_step ?_
 refine wp_seq ?_
 refine Rl [] [(48, Pr.ex (Value.bool (true)))] 1 N89 D89 ?_ ?_
 refine Ac ?_ (Az _)
 exact Ap fun aq wq _ hO hR hT => does_lss (a := ((6 : Nat) : Int)) (b := ((8 : Nat) : Int)) (oT hO s47_89 rfl) rfl eR
 intro a90 wd90 N90 D90 hO hR hA hU
 obtain ⟨t48, _⟩ := hA
 have E90 := E88.trans hR
 have s1_90 := oT hO s1_89 rfl
 have s2_90 := oT hO s2_89 rfl
 have s6_90 := oT hO s6_89 rfl
 have s8_90 := oT hO s8_89 rfl
 have s47_90 := oT hO s47_89 rfl
 have B1_90 := B1_88.ext' hR
 have B2_90 := B2_88.ext' hR
 have B6_90 := B6_88.ext' hR
 have s48_90 : get a90 48 = Value.bool (true) := t48
 clear E88 N89 D89 s1_89 s2_89 s6_89 s8_89 s47_89 B1_88 B2_88 B6_88
 refine tail_nil ?_
 refine wp_seq ?_
 refine wp_ifT s48_90 ?_
 refine wp_skip ?_
 refine wp_seq ?_
 refine wp_block ?_
 refine wp_seq ?_
 refine Rl [] [(49, Pr.ex (i64 ((6 : Nat) : Int))), (7, Pr.ex (i64 ((6 : Nat) : Int)))] 2 N90 D90 ?_ ?_
 refine Ac ?_ (Ac ?_ (Az _))
 exact Am s47_90 rfl fun _ => rfl
 exact Ap fun aq wq _ hO hR hT => does_assign (V := i64 ((6 : Nat) : Int)) (hT 49 rfl rfl) eR
 intro a91 wd91 N91 D91 hO hR hA hU
 obtain ⟨_, t7, _⟩ := hA
 have E91 := E90.trans hR
 have s1_91 := oT hO s1_90 rfl
 have s2_91 := oT hO s2_90 rfl
 have s6_91 := oT hO s6_90 rfl
 have s8_91 := oT hO s8_90 rfl
 have s47_91 := oT hO s47_90 rfl
 have B1_91 := B1_90.ext' hR
 have B2_91 := B2_90.ext' hR
 have B6_91 := B6_90.ext' hR
 have s7_91 : get a91 7 = i64 ((6 : Nat) : Int) := t7
 clear E90 N90 D90 s1_90 s2_90 s6_90 s8_90 s47_90 s48_90 B1_90 B2_90 B6_90
 refine tail_nil ?_
 refine Rl [] [(50, Pr.ex (i64 ((6 : Nat) : Int))), (51, Pr.ex (i64 ((6 : Nat) : Int))), (52, Pr.ex (i64 ((9 : Nat) : Int))), (53, Pr.ex (i64 ((1 : Nat) : Int))), (54, Pr.ex (Value.pointer (some ⟨b6, 1, none⟩))), (55, Pr.ex (w32 (v24))), (56, Pr.ex (Value.pointer (some ⟨b1, 6, none⟩)))] 7 N91 D91 ?_ ?_
 refine Ac ?_ (Ac ?_ (Ac ?_ (Ac ?_ (Ac ?_ (Ac ?_ (Ac ?_ (Az _)))))))
 exact Am s7_91 rfl fun _ => rfl
 exact Am s7_91 rfl fun _ => rfl
 exact Ap fun aq wq _ hO hR hT => does_add (a := ((6 : Nat) : Int)) (b := ((3 : Nat) : Int)) (r := ((9 : Nat) : Int)) (hT 51 rfl rfl) rfl (by decide) (by decide) (by decide) eR
 exact Ap fun aq wq _ hO hR hT => does_rem (k := .i64) (a := ((9 : Nat) : Int)) (b := ((8 : Nat) : Int)) (r := ((1 : Nat) : Int)) (hT 52 rfl rfl) rfl (by decide) (by decide) (by decide) eR
 exact Ap fun aq wq _ hO hR hT => does_indexArr (k := .i64) (i := 1) (o' := 1) arr_75 (oT hO s6_91 rfl) (hT 53 rfl rfl) (by decide) (by decide) rfl eR
 exact Ap fun aq wq _ hO hR hT => does_loadD1 (o := 1) (V := w32 (v24)) (hT 54 rfl rfl) (B6_91.ext' hR) rfl one_22 eR
 exact Ap fun aq wq _ hO hR hT => does_indexArr (k := .i64) (i := 6) (o' := 6) arr_75 (oT hO s1_91 rfl) (hT 50 rfl rfl) (by decide) (by decide) rfl eR
 intro a92 wd92 N92 D92 hO hR hA hU
 obtain ⟨_, _, _, _, _, t55, t56, _⟩ := hA
 have E92 := E91.trans hR
 have s1_92 := oT hO s1_91 rfl
 have s2_92 := oT hO s2_91 rfl
 have s6_92 := oT hO s6_91 rfl
 have s8_92 := oT hO s8_91 rfl
 have s47_92 := oT hO s47_91 rfl
 have B1_92 := B1_91.ext' hR
 have B2_92 := B2_91.ext' hR
 have B6_92 := B6_91.ext' hR
 have s55_92 : get a92 55 = w32 (v24) := t55
 have s56_92 : get a92 56 = Value.pointer (some ⟨b1, 6, none⟩) := t56
 clear E91 N91 D91 s1_91 s2_91 s6_91 s7_91 s8_91 s47_91 B1_91 B2_91 B6_91
 refine tail_none rfl rfl (does_storeD (o := 6) (n := 1) (cs' := [w32 (v44), w32 (v17), w32 (v27), w32 (v37), w32 (v47), w32 (v14), w32 (v24), w32 (v47)]) (V := w32 (v24)) s56_92 s55_92 B1_92 (nB rfl) rfl siz_22 rfl rfl (fun wd93 hX hz B1_93 => ?_))
 have E93 := E92.since hX (fun k e => e ▸ fr_b1)
 have B2_93 := B2_92.ext hX ne_b1_b2.symm
 have B6_93 := B6_92.ext hX ne_b1_b6.symm
 clear hX hz E92 B1_92 B2_92 B6_92
 refine tail_nil ?_
 refine Rl [] [(57, Pr.ex (i64 ((7 : Nat) : Int)))] 1 N92 D92 ?_ ?_
 refine Ac ?_ (Az _)
 exact Ap fun aq wq _ hO hR hT => does_add (a := ((6 : Nat) : Int)) (b := ((1 : Nat) : Int)) (r := ((7 : Nat) : Int)) (oT hO s47_92 rfl) rfl (by decide) (by decide) (by decide) eR
 intro a94 wd94 N94 D94 hO hR hA hU
 obtain ⟨t57, _⟩ := hA
 have E94 := E93.trans hR
 have s1_94 := oT hO s1_92 rfl
 have s2_94 := oT hO s2_92 rfl
 have s6_94 := oT hO s6_92 rfl
 have s8_94 := oT hO s8_92 rfl
 have s47_94 := oT hO s47_92 rfl
 have B1_94 := B1_93.ext' hR
 have B2_94 := B2_93.ext' hR
 have B6_94 := B6_93.ext' hR
 have s57_94 : get a94 57 = i64 ((7 : Nat) : Int) := t57
 clear E93 N92 D92 s1_92 s2_92 s6_92 s8_92 s47_92 s55_92 s56_92 B1_93 B2_93 B6_93
 refine tail_put rfl rfl N94 D94 (by decide) (does_move (V := i64 ((7 : Nat) : Int)) s57_94 (fun a95 N95 D95 hv hO => ?_))
 have s47_95 := hv
 have s1_95 := oT hO s1_94 rfl
 have s2_95 := oT hO s2_94 rfl
 have s6_95 := oT hO s6_94 rfl
 have s8_95 := oT hO s8_94 rfl
 clear hO hv N94 D94 s1_94 s2_94 s6_94 s8_94 s57_94 s47_94
 refine tail_nil ?_
 refine round_step ?_
 refine wp_seq ?_
 refine Rl [] [(48, Pr.ex (Value.bool (true)))] 1 N95 D95 ?_ ?_
 refine Ac ?_ (Az _)
 exact Ap fun aq wq _ hO hR hT => does_lss (a := ((7 : Nat) : Int)) (b := ((8 : Nat) : Int)) (oT hO s47_95 rfl) rfl eR
 intro a96 wd96 N96 D96 hO hR hA hU
 obtain ⟨t48, _⟩ := hA
 have E96 := E94.trans hR
 have s1_96 := oT hO s1_95 rfl
 have s2_96 := oT hO s2_95 rfl
 have s6_96 := oT hO s6_95 rfl
 have s8_96 := oT hO s8_95 rfl
 have s47_96 := oT hO s47_95 rfl
 have B1_96 := B1_94.ext' hR
 have B2_96 := B2_94.ext' hR
 have B6_96 := B6_94.ext' hR
 have s48_96 : get a96 48 = Value.bool (true) := t48
 clear E94 N95 D95 s1_95 s2_95 s6_95 s8_95 s47_95 B1_94 B2_94 B6_94
 refine tail_nil ?_
 refine wp_seq ?_
 refine wp_ifT s48_96 ?_
 refine wp_skip ?_
 refine wp_seq ?_
 refine wp_block ?_
 refine wp_seq ?_
 refine Rl [] [(49, Pr.ex (i64 ((7 : Nat) : Int))), (7, Pr.ex (i64 ((7 : Nat) : Int)))] 2 N96 D96 ?_ ?_
 refine Ac ?_ (Ac ?_ (Az _))
 exact Am s47_96 rfl fun _ => rfl
 exact Ap fun aq wq _ hO hR hT => does_assign (V := i64 ((7 : Nat) : Int)) (hT 49 rfl rfl) eR
 intro a97 wd97 N97 D97 hO hR hA hU
 obtain ⟨_, t7, _⟩ := hA
 have E97 := E96.trans hR
 have s1_97 := oT hO s1_96 rfl
 have s2_97 := oT hO s2_96 rfl
 have s6_97 := oT hO s6_96 rfl
 have s8_97 := oT hO s8_96 rfl
 have s47_97 := oT hO s47_96 rfl
 have B1_97 := B1_96.ext' hR
 have B2_97 := B2_96.ext' hR
 have B6_97 := B6_96.ext' hR
 have s7_97 : get a97 7 = i64 ((7 : Nat) : Int) := t7
 clear E96 N96 D96 s1_96 s2_96 s6_96 s8_96 s47_96 s48_96 B1_96 B2_96 B6_96
 refine tail_nil ?_
 refine Rl [] [(50, Pr.ex (i64 ((7 : Nat) : Int))), (51, Pr.ex (i64 ((7 : Nat) : Int))), (52, Pr.ex (i64 ((10 : Nat) : Int))), (53, Pr.ex (i64 ((2 : Nat) : Int))), (54, Pr.ex (Value.pointer (some ⟨b6, 2, none⟩))), (55, Pr.ex (w32 (v34))), (56, Pr.ex (Value.pointer (some ⟨b1, 7, none⟩)))] 7 N97 D97 ?_ ?_
 refine Ac ?_ (Ac ?_ (Ac ?_ (Ac ?_ (Ac ?_ (Ac ?_ (Ac ?_ (Az _)))))))
 exact Am s7_97 rfl fun _ => rfl
 exact Am s7_97 rfl fun _ => rfl
 exact Ap fun aq wq _ hO hR hT => does_add (a := ((7 : Nat) : Int)) (b := ((3 : Nat) : Int)) (r := ((10 : Nat) : Int)) (hT 51 rfl rfl) rfl (by decide) (by decide) (by decide) eR
 exact Ap fun aq wq _ hO hR hT => does_rem (k := .i64) (a := ((10 : Nat) : Int)) (b := ((8 : Nat) : Int)) (r := ((2 : Nat) : Int)) (hT 52 rfl rfl) rfl (by decide) (by decide) (by decide) eR
 exact Ap fun aq wq _ hO hR hT => does_indexArr (k := .i64) (i := 2) (o' := 2) arr_75 (oT hO s6_97 rfl) (hT 53 rfl rfl) (by decide) (by decide) rfl eR
 exact Ap fun aq wq _ hO hR hT => does_loadD1 (o := 2) (V := w32 (v34)) (hT 54 rfl rfl) (B6_97.ext' hR) rfl one_22 eR
 exact Ap fun aq wq _ hO hR hT => does_indexArr (k := .i64) (i := 7) (o' := 7) arr_75 (oT hO s1_97 rfl) (hT 50 rfl rfl) (by decide) (by decide) rfl eR
 intro a98 wd98 N98 D98 hO hR hA hU
 obtain ⟨_, _, _, _, _, t55, t56, _⟩ := hA
 have E98 := E97.trans hR
 have s1_98 := oT hO s1_97 rfl
 have s2_98 := oT hO s2_97 rfl
 have s6_98 := oT hO s6_97 rfl
 have s8_98 := oT hO s8_97 rfl
 have s47_98 := oT hO s47_97 rfl
 have B1_98 := B1_97.ext' hR
 have B2_98 := B2_97.ext' hR
 have B6_98 := B6_97.ext' hR
 have s55_98 : get a98 55 = w32 (v34) := t55
 have s56_98 : get a98 56 = Value.pointer (some ⟨b1, 7, none⟩) := t56
 clear E97 N97 D97 s1_97 s2_97 s6_97 s7_97 s8_97 s47_97 B1_97 B2_97 B6_97
 refine tail_none rfl rfl (does_storeD (o := 7) (n := 1) (cs' := [w32 (v44), w32 (v17), w32 (v27), w32 (v37), w32 (v47), w32 (v14), w32 (v24), w32 (v34)]) (V := w32 (v34)) s56_98 s55_98 B1_98 (nB rfl) rfl siz_22 rfl rfl (fun wd99 hX hz B1_99 => ?_))
 have E99 := E98.since hX (fun k e => e ▸ fr_b1)
 have B2_99 := B2_98.ext hX ne_b1_b2.symm
 have B6_99 := B6_98.ext hX ne_b1_b6.symm
 clear hX hz E98 B1_98 B2_98 B6_98
 refine tail_nil ?_
 refine Rl [] [(57, Pr.ex (i64 ((8 : Nat) : Int)))] 1 N98 D98 ?_ ?_
 refine Ac ?_ (Az _)
 exact Ap fun aq wq _ hO hR hT => does_add (a := ((7 : Nat) : Int)) (b := ((1 : Nat) : Int)) (r := ((8 : Nat) : Int)) (oT hO s47_98 rfl) rfl (by decide) (by decide) (by decide) eR
 intro a100 wd100 N100 D100 hO hR hA hU
 obtain ⟨t57, _⟩ := hA
 have E100 := E99.trans hR
 have s1_100 := oT hO s1_98 rfl
 have s2_100 := oT hO s2_98 rfl
 have s6_100 := oT hO s6_98 rfl
 have s8_100 := oT hO s8_98 rfl
 have s47_100 := oT hO s47_98 rfl
 have B1_100 := B1_99.ext' hR
 have B2_100 := B2_99.ext' hR
 have B6_100 := B6_99.ext' hR
 have s57_100 : get a100 57 = i64 ((8 : Nat) : Int) := t57
 clear E99 N98 D98 s1_98 s2_98 s6_98 s8_98 s47_98 s55_98 s56_98 B1_99 B2_99 B6_99
 refine tail_put rfl rfl N100 D100 (by decide) (does_move (V := i64 ((8 : Nat) : Int)) s57_100 (fun a101 N101 D101 hv hO => ?_))
 have s47_101 := hv
 have s1_101 := oT hO s1_100 rfl
 have s2_101 := oT hO s2_100 rfl
 have s6_101 := oT hO s6_100 rfl
 have s8_101 := oT hO s8_100 rfl
 clear hO hv N100 D100 s1_100 s2_100 s6_100 s8_100 s57_100 s47_100
 refine tail_nil ?_
 refine round_step ?_
 refine wp_seq ?_
 refine Rl [] [(48, Pr.ex (Value.bool (false)))] 1 N101 D101 ?_ ?_
 refine Ac ?_ (Az _)
 exact Ap fun aq wq _ hO hR hT => does_lss (a := ((8 : Nat) : Int)) (b := ((8 : Nat) : Int)) (oT hO s47_101 rfl) rfl eR
 intro a102 wd102 N102 D102 hO hR hA hU
 obtain ⟨t48, _⟩ := hA
 have E102 := E100.trans hR
 have s1_102 := oT hO s1_101 rfl
 have s2_102 := oT hO s2_101 rfl
 have s6_102 := oT hO s6_101 rfl
 have s8_102 := oT hO s8_101 rfl
 have s47_102 := oT hO s47_101 rfl
 have B1_102 := B1_100.ext' hR
 have B2_102 := B2_100.ext' hR
 have B6_102 := B6_100.ext' hR
 have s48_102 : get a102 48 = Value.bool (false) := t48
 clear E100 N101 D101 s1_101 s2_101 s6_101 s8_101 s47_101 B1_100 B2_100 B6_100
 refine tail_nil ?_
 refine wp_seq ?_
 refine wp_ifF s48_102 ?_
 refine wp_exit ?_
 refine Rl [] [(58, Pr.ex (w32 ((UInt32.ofNat k : UInt32) + (1 : UInt32))))] 1 N102 D102 ?_ ?_
 refine Ac ?_ (Az _)
 exact Ap fun aq wq _ hO hR hT => does_add32 (a := (UInt32.ofNat k : UInt32)) (b := (1 : UInt32)) (oT hO s8_102 rfl) rfl eR
 intro a103 wd103 N103 D103 hO hR hA hU
 obtain ⟨t58, _⟩ := hA
 have E103 := E102.trans hR
 have s1_103 := oT hO s1_102 rfl
 have s2_103 := oT hO s2_102 rfl
 have s8_103 := oT hO s8_102 rfl
 have B1_103 := B1_102.ext' hR
 have B2_103 := B2_102.ext' hR
 have B6_103 := B6_102.ext' hR
 have s58_103 : get a103 58 = w32 ((UInt32.ofNat k : UInt32) + (1 : UInt32)) := t58
 clear E102 N102 D102 s1_102 s2_102 s6_102 s8_102 s47_102 s48_102 B1_102 B2_102 B6_102
 refine tail_put rfl rfl N103 D103 (by decide) (does_move (V := w32 ((UInt32.ofNat k : UInt32) + (1 : UInt32))) s58_103 (fun a104 N104 D104 hv hO => ?_))
 have s8_104 := hv
 have s1_104 := oT hO s1_103 rfl
 have s2_104 := oT hO s2_103 rfl
 clear hO hv N103 D103 s1_103 s2_103 s58_103 s8_103
 refine tail_nil ?_
 subst hv47
 subst hv44
 subst hv37
 subst hv34
 subst hv27
 subst hv24
 subst hv17
 subst hv14
 subst hv8
 exact ⟨_, by omega, k + 1, rfl, N104, D104, s1_104, s2_104, (by rw [s8_104, u32_succ]), E103, (by have h := B1_103; rw [u32_succ] at h; exact h), B2_103, by omega⟩
 have hc0 := of_decide_eq_false hc0
 have hk8 : k = 8 := by have := mt (u32_lt8 hk).2 hc0; omega
 refine wp_exit ?_
 refine wp_seq ?_
 refine Rl [] [(59, Pr.ex (Value.agg #[w32 ((s.rounds k).a), w32 ((s.rounds k).b), w32 ((s.rounds k).c), w32 ((s.rounds k).d), w32 ((s.rounds k).e), w32 ((s.rounds k).f), w32 ((s.rounds k).g), w32 ((s.rounds k).h)]))] 1 N4 D4 ?_ ?_
 refine Ac ?_ (Az _)
 exact Ap fun aq wq _ hO hR hT => does_loadD (o := 0) (n := 8) (mid := [w32 ((s.rounds k).a), w32 ((s.rounds k).b), w32 ((s.rounds k).c), w32 ((s.rounds k).d), w32 ((s.rounds k).e), w32 ((s.rounds k).f), w32 ((s.rounds k).g), w32 ((s.rounds k).h)]) (oT hO s1_4 rfl) (B1_4.ext' hR) rfl rfl (nB rfl) row_75 rfl eR
 intro a105 wd105 N105 D105 hO hR hA hU
 obtain ⟨t59, _⟩ := hA
 have E105 := E4.trans hR
 have s2_105 := oT hO s2_4 rfl
 have B1_105 := B1_4.ext' hR
 have B2_105 := B2_4.ext' hR
 have s59_105 : get a105 59 = Value.agg #[w32 ((s.rounds k).a), w32 ((s.rounds k).b), w32 ((s.rounds k).c), w32 ((s.rounds k).d), w32 ((s.rounds k).e), w32 ((s.rounds k).f), w32 ((s.rounds k).g), w32 ((s.rounds k).h)] := t59
 clear E4 N4 D4 s1_4 s2_4 s8_4 s9_4 B1_4 B2_4
 refine tail_none rfl rfl (does_storeD (o := 0) (n := 8) (cs' := [w32 ((s.rounds k).a), w32 ((s.rounds k).b), w32 ((s.rounds k).c), w32 ((s.rounds k).d), w32 ((s.rounds k).e), w32 ((s.rounds k).f), w32 ((s.rounds k).g), w32 ((s.rounds k).h)]) (V := Value.agg #[w32 ((s.rounds k).a), w32 ((s.rounds k).b), w32 ((s.rounds k).c), w32 ((s.rounds k).d), w32 ((s.rounds k).e), w32 ((s.rounds k).f), w32 ((s.rounds k).g), w32 ((s.rounds k).h)]) s2_105 s59_105 B2_105 (nB rfl) rfl siz_75 rfl rfl (fun wd106 hX hz B2_106 => ?_))
 have E106 := E105.since hX (fun k e => e ▸ fr_b2)
 have B1_106 := B1_105.ext hX ne_b1_b2
 clear hX hz E105 B1_105 B2_105
 refine tail_nil ?_
 refine wp_ret ?_
 refine res_one (V := Value.agg #[w32 ((s.rounds k).a), w32 ((s.rounds k).b), w32 ((s.rounds k).c), w32 ((s.rounds k).d), w32 ((s.rounds k).e), w32 ((s.rounds k).f), w32 ((s.rounds k).g), w32 ((s.rounds k).h)]) rfl D105 (ResIs.cell s2_105 B2_106 row_75 rfl rfl) ?_
 subst hk8
 exact ⟨rfl, E106⟩

end Go.Proofs.YtmmghpbncejfiaaDoor
