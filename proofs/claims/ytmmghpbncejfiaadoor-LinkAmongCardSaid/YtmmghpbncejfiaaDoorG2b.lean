/- The walks of functions of the program: printed. -/
import Derived.Test.YtmmghpbncejfiaaDoorG1
import Derived.Test.YtmmghpbncejfiaaDoorG2
import Derived.Test.YtmmghpbncejfiaaDoorF0
set_option maxRecDepth 100000
namespace Go.Proofs.YtmmghpbncejfiaaDoor
open Go Go.RowKit Sk Sd
theorem mixR (s : St) (w0 : World) :
    Gives Tryd.prog 62 #[Value.agg #[w32 (s.a), w32 (s.b), w32 (s.c), w32 (s.d), w32 (s.e), w32 (s.f), w32 (s.g), w32 (s.h)]] w0 (Pr.ex (St.val s.mix)) := by
 refine enter (N := 63) Tryd.func62 rfl rfl ?_
 intro a0 N0 D0 hA
 have s0_0 : get a0 0 = Value.agg #[w32 (s.a), w32 (s.b), w32 (s.c), w32 (s.d), w32 (s.e), w32 (s.f), w32 (s.g), w32 (s.h)] := hA 0 _ rfl
 clear hA
 have E0 : Ext w0 w0 := Ext.refl w0
 refine wp_seq ?_
 refine Rl [1, 2] [(1, Pr.box' w0.heap.size 75 [w32 (s.a), w32 (s.b), w32 (s.c), w32 (s.d), w32 (s.e), w32 (s.f), w32 (s.g), w32 (s.h)]), (2, Pr.box' w0.heap.size 75 [w32 (0), w32 (0), w32 (0), w32 (0), w32 (0), w32 (0), w32 (0), w32 (0)])] 2 N0 D0 ?_ ?_
 refine Ac ?_ (Ac ?_ (Az _))
 refine Ask.fresh rfl rfl ?_
 intro aq wq hNq hO hR hT
 exact does_box (V := Value.agg #[w32 (s.a), w32 (s.b), w32 (s.c), w32 (s.d), w32 (s.e), w32 (s.f), w32 (s.g), w32 (s.h)]) (oT hO s0_0 rfl) (fun b w2 he hlo hb => ⟨he, ⟨b, rfl, Nat.le_trans hR.size' hlo, hb⟩, ⟨b, rfl, hlo, hb.lt⟩⟩)
 refine Ask.fresh rfl rfl ?_
 intro aq wq hNq hO hR hT
 exact does_alloc zero_75 (fun b w2 he hlo hb => ⟨he, ⟨b, rfl, Nat.le_trans hR.size' hlo, hb⟩, ⟨b, rfl, hlo, hb.lt⟩⟩)
 intro a1 wd1 N1 D1 hO hR hA hU
 obtain ⟨t1, t2, _⟩ := hA
 have E1 := E0.trans hR
 obtain ⟨b1, s1_1, lo_b1, B1_1⟩ := t1
 have fr_b1 : w0.heap.size ≤ b1 := Nat.le_trans E0.size' lo_b1
 obtain ⟨b2, s2_1, lo_b2, B2_1⟩ := t2
 have fr_b2 : w0.heap.size ≤ b2 := Nat.le_trans E0.size' lo_b2
 obtain ⟨u0, ⟨u1, _⟩⟩ := hU
 have ne_b1_b2 : b1 ≠ b2 := fun e => u0 2 (by decide) (by rw [s1_1, s2_1, e])
 clear E0 N0 D0 s0_0
 refine tail_nil ?_
 refine wp_seq ?_
 refine Rl [3] [(8, Pr.ex (Value.agg #[i64 ((7 : Nat) : Int), i64 ((9 : Nat) : Int), i64 ((13 : Nat) : Int), i64 ((18 : Nat) : Int)])), (3, Pr.box' wd1.heap.size 113 [i64 ((0 : Nat) : Int), i64 ((0 : Nat) : Int), i64 ((0 : Nat) : Int), i64 ((0 : Nat) : Int)])] 2 N1 D1 ?_ ?_
 refine Ac ?_ (Ac ?_ (Az _))
 exact Ap fun aq wq _ hO hR hT => does_ret (vs := #[]) call_87 args0 rfl ((turnsR wq).mono fun v w2 h => ⟨h.2, h.1⟩)
 refine Ask.fresh rfl rfl ?_
 intro aq wq hNq hO hR hT
 exact does_alloc zero_113 (fun b w2 he hlo hb => ⟨he, ⟨b, rfl, Nat.le_trans hR.size' hlo, hb⟩, ⟨b, rfl, hlo, hb.lt⟩⟩)
 intro a2 wd2 N2 D2 hO hR hA hU
 obtain ⟨t8, t3, _⟩ := hA
 have E2 := E1.trans hR
 have s1_2 := oT hO s1_1 rfl
 have s2_2 := oT hO s2_1 rfl
 have B1_2 := B1_1.ext' hR
 have B2_2 := B2_1.ext' hR
 have s8_2 : get a2 8 = Value.agg #[i64 ((7 : Nat) : Int), i64 ((9 : Nat) : Int), i64 ((13 : Nat) : Int), i64 ((18 : Nat) : Int)] := t8
 obtain ⟨b3, s3_2, lo_b3, B3_2⟩ := t3
 have ne_b1_b3 := Hl B1_1 lo_b3
 have ne_b2_b3 := Hl B2_1 lo_b3
 have fr_b3 : w0.heap.size ≤ b3 := Nat.le_trans E1.size' lo_b3
 clear E1 N1 D1 s1_1 s2_1 B1_1 B2_1
 refine tail_none rfl rfl (does_storeD (o := 0) (n := 4) (cs' := [i64 ((7 : Nat) : Int), i64 ((9 : Nat) : Int), i64 ((13 : Nat) : Int), i64 ((18 : Nat) : Int)]) (V := Value.agg #[i64 ((7 : Nat) : Int), i64 ((9 : Nat) : Int), i64 ((13 : Nat) : Int), i64 ((18 : Nat) : Int)]) s3_2 s8_2 B3_2 (nB rfl) rfl siz_113 rfl rfl (fun wd3 hX hz B3_3 => ?_))
 have E3 := E2.since hX (fun k e => e ▸ fr_b3)
 have B1_3 := B1_2.ext hX ne_b1_b3
 have B2_3 := B2_2.ext hX ne_b2_b3
 clear hX hz E2 B1_2 B2_2 B3_2
 refine tail_nil ?_
 refine wp_seq ?_
 refine wp_seq ?_
 refine Rl [] [(4, Pr.ex (i64 ((0 : Nat) : Int)))] 1 N2 D2 ?_ ?_
 refine Ac ?_ (Az _)
 exact Ap fun aq wq _ hO hR hT => does_assign (V := i64 ((0 : Nat) : Int)) rfl eR
 intro a4 wd4 N4 D4 hO hR hA hU
 obtain ⟨t4, _⟩ := hA
 have E4 := E3.trans hR
 have s1_4 := oT hO s1_2 rfl
 have s2_4 := oT hO s2_2 rfl
 have s3_4 := oT hO s3_2 rfl
 have B1_4 := B1_3.ext' hR
 have B2_4 := B2_3.ext' hR
 have B3_4 := B3_3.ext' hR
 have s4_4 : get a4 4 = i64 ((0 : Nat) : Int) := t4
 clear E3 N2 D2 s1_2 s2_2 s3_2 s8_2 B1_3 B2_3 B3_3
 refine tail_nil ?_
 refine wp_block ?_
 refine loop_g (fun mz az wz => ∃ k : Nat, mz = 8 - k ∧ (az.tmps.size = 63) ∧ (az.defers = []) ∧ (get az 1 = Value.pointer (some ⟨b1, 0, none⟩)) ∧ (get az 2 = Value.pointer (some ⟨b2, 0, none⟩)) ∧ (get az 3 = Value.pointer (some ⟨b3, 0, none⟩)) ∧ (get az 4 = i64 (k : Int)) ∧ (Ext w0 wz) ∧ (Has wz b1 75 [w32 ((s.rounds k).a), w32 ((s.rounds k).b), w32 ((s.rounds k).c), w32 ((s.rounds k).d), w32 ((s.rounds k).e), w32 ((s.rounds k).f), w32 ((s.rounds k).g), w32 ((s.rounds k).h)]) ∧ (Has wz b2 75 [w32 (0), w32 (0), w32 (0), w32 (0), w32 (0), w32 (0), w32 (0), w32 (0)]) ∧ (Has wz b3 113 [i64 ((7 : Nat) : Int), i64 ((9 : Nat) : Int), i64 ((13 : Nat) : Int), i64 ((18 : Nat) : Int)]) ∧ (k ≤ 8)) ?_ ?_
 exact ⟨_, 0, rfl, N4, D4, s1_4, s2_4, s3_4, s4_4, E4, B1_4, B2_4, B3_4, by omega⟩
 rintro mz a5 wd5 ⟨k, rfl, N5, D5, s1_5, s2_5, s3_5, s4_5, E5, B1_5, B2_5, B3_5, hk⟩
 refine wp_seq ?_
 refine wp_seq ?_
 refine Rl [] [(9, Pr.ex (i64 (k : Int))), (10, Pr.ex (Value.bool (decide ((k : Int) < ((8 : Nat) : Int)))))] 2 N5 D5 ?_ ?_
 refine Ac ?_ (Ac ?_ (Az _))
 exact Am s4_5 rfl fun _ => rfl
 exact Ap fun aq wq _ hO hR hT => does_lss (a := (k : Int)) (b := ((8 : Nat) : Int)) (hT 9 rfl rfl) rfl eR
 intro a6 wd6 N6 D6 hO hR hA hU
 obtain ⟨_, t10, _⟩ := hA
 have E6 := E5.trans hR
 have s1_6 := oT hO s1_5 rfl
 have s2_6 := oT hO s2_5 rfl
 have s3_6 := oT hO s3_5 rfl
 have s4_6 := oT hO s4_5 rfl
 have B1_6 := B1_5.ext' hR
 have B2_6 := B2_5.ext' hR
 have B3_6 := B3_5.ext' hR
 have s10_6 : get a6 10 = Value.bool (decide ((k : Int) < ((8 : Nat) : Int))) := t10
 clear E5 N5 D5 s1_5 s2_5 s3_5 s4_5 B1_5 B2_5 B3_5
 refine tail_nil ?_
 refine wp_if (B := decide ((k : Int) < ((8 : Nat) : Int))) s10_6 (fun hc0 => ?_) (fun hc0 => ?_)
 have hc0 := of_decide_eq_true hc0
 refine wp_skip ?_
 refine wp_seq ?_
 refine wp_block ?_
 refine wp_seq ?_
 refine Rl [] [(13, Pr.ex (Value.pointer (some ⟨b1, 0, none⟩))), (14, Pr.ex (w32 ((s.rounds k).a))), (15, Pr.ex (i64 (k : Int))), (16, Pr.ex (i64 ((k + 1 : Nat) : Int))), (17, Pr.ex (w32 (UInt32.ofNat (k + 1)))), (18, Pr.ex (w32 ((2654435769 : UInt32) * (UInt32.ofNat (k + 1) : UInt32)))), (19, Pr.ex (w32 (((s.rounds k).a : UInt32) + ((2654435769 : UInt32) * (UInt32.ofNat (k + 1) : UInt32) : UInt32)))), (20, Pr.ex (Value.pointer (some ⟨b1, 0, none⟩)))] 8 N6 D6 ?_ ?_
 refine Ac ?_ (Ac ?_ (Ac ?_ (Ac ?_ (Ac ?_ (Ac ?_ (Ac ?_ (Ac ?_ (Az _))))))))
 exact Ap fun aq wq _ hO hR hT => does_indexArr (k := .i64) (i := 0) (o' := 0) arr_75 (oT hO s1_6 rfl) rfl (by decide) (by decide) rfl eR
 exact Ap fun aq wq _ hO hR hT => does_loadD1 (o := 0) (V := w32 ((s.rounds k).a)) (hT 13 rfl rfl) (B1_6.ext' hR) rfl one_22 eR
 exact Am s4_6 rfl fun _ => rfl
 exact Ap fun aq wq _ hO hR hT => does_add (a := (k : Int)) (b := ((1 : Nat) : Int)) (r := ((k + 1 : Nat) : Int)) (hT 15 rfl rfl) rfl (by omega) (by omega) (by omega) eR
 exact Ap fun aq wq _ hO hR hT => does_conv ⟨_, Tryd.underlying3⟩ Tryd.underlying22 (hT 16 rfl rfl) (wrap_u32 _) eR
 exact Ap fun aq wq _ hO hR hT => does_mul32 (a := (2654435769 : UInt32)) (b := (UInt32.ofNat (k + 1) : UInt32)) rfl (hT 17 rfl rfl) eR
 exact Ap fun aq wq _ hO hR hT => does_add32 (a := ((s.rounds k).a : UInt32)) (b := ((2654435769 : UInt32) * (UInt32.ofNat (k + 1) : UInt32) : UInt32)) (hT 14 rfl rfl) (hT 18 rfl rfl) eR
 exact Ap fun aq wq _ hO hR hT => does_indexArr (k := .i64) (i := 0) (o' := 0) arr_75 (oT hO s1_6 rfl) rfl (by decide) (by decide) rfl eR
 intro a7 wd7 N7 D7 hO hR hA hU
 obtain ⟨_, _, _, _, _, _, t19, t20, _⟩ := hA
 have E7 := E6.trans hR
 have s1_7 := oT hO s1_6 rfl
 have s2_7 := oT hO s2_6 rfl
 have s3_7 := oT hO s3_6 rfl
 have s4_7 := oT hO s4_6 rfl
 have B1_7 := B1_6.ext' hR
 have B2_7 := B2_6.ext' hR
 have B3_7 := B3_6.ext' hR
 have s19_7 : get a7 19 = w32 (((s.rounds k).a : UInt32) + ((2654435769 : UInt32) * (UInt32.ofNat (k + 1) : UInt32) : UInt32)) := t19
 have s20_7 : get a7 20 = Value.pointer (some ⟨b1, 0, none⟩) := t20
 clear E6 N6 D6 s1_6 s2_6 s3_6 s4_6 s10_6 B1_6 B2_6 B3_6
 refine tail_none rfl rfl (does_storeD (o := 0) (n := 1) (cs' := [w32 (((s.rounds k).a : UInt32) + ((2654435769 : UInt32) * (UInt32.ofNat (k + 1) : UInt32) : UInt32)), w32 ((s.rounds k).b), w32 ((s.rounds k).c), w32 ((s.rounds k).d), w32 ((s.rounds k).e), w32 ((s.rounds k).f), w32 ((s.rounds k).g), w32 ((s.rounds k).h)]) (V := w32 (((s.rounds k).a : UInt32) + ((2654435769 : UInt32) * (UInt32.ofNat (k + 1) : UInt32) : UInt32))) s20_7 s19_7 B1_7 (nB rfl) rfl siz_22 rfl rfl (fun wd8 hX hz B1_8 => ?_))
 have E8 := E7.since hX (fun k e => e ▸ fr_b1)
 have B2_8 := B2_7.ext hX ne_b1_b2.symm
 have B3_8 := B3_7.ext hX ne_b1_b3.symm
 clear hX hz E7 B1_7 B2_7 B3_7
 obtain ⟨v9, hv9⟩ : ∃ v : UInt32, ((s.rounds k).a : UInt32) + ((2654435769 : UInt32) * (UInt32.ofNat (k + 1) : UInt32) : UInt32) = v := ⟨_, rfl⟩
 rw [hv9] at B1_8
 refine tail_nil ?_
 refine wp_seq ?_
 refine wp_seq ?_
 refine Rl [] [(5, Pr.ex (i64 ((0 : Nat) : Int)))] 1 N7 D7 ?_ ?_
 refine Ac ?_ (Az _)
 exact Ap fun aq wq _ hO hR hT => does_assign (V := i64 ((0 : Nat) : Int)) rfl eR
 intro a10 wd10 N10 D10 hO hR hA hU
 obtain ⟨t5, _⟩ := hA
 have E10 := E8.trans hR
 have s1_10 := oT hO s1_7 rfl
 have s2_10 := oT hO s2_7 rfl
 have s3_10 := oT hO s3_7 rfl
 have s4_10 := oT hO s4_7 rfl
 have B1_10 := B1_8.ext' hR
 have B2_10 := B2_8.ext' hR
 have B3_10 := B3_8.ext' hR
 have s5_10 : get a10 5 = i64 ((0 : Nat) : Int) := t5
 clear E8 N7 D7 s1_7 s2_7 s3_7 s4_7 s19_7 s20_7 B1_8 B2_8 B3_8
 refine tail_nil ?_
 refine wp_block ?_
 refine loop_rounds 5 ?_
 refine round_step ?_
 refine wp_seq ?_
 refine wp_seq ?_
 refine Rl [] [(21, Pr.ex (i64 ((0 : Nat) : Int))), (22, Pr.ex (Value.bool (true)))] 2 N10 D10 ?_ ?_
 refine Ac ?_ (Ac ?_ (Az _))
 exact Am s5_10 rfl fun _ => rfl
 exact Ap fun aq wq _ hO hR hT => does_lss (a := ((0 : Nat) : Int)) (b := ((4 : Nat) : Int)) (hT 21 rfl rfl) rfl eR
 intro a11 wd11 N11 D11 hO hR hA hU
 obtain ⟨_, t22, _⟩ := hA
 have E11 := E10.trans hR
 have s1_11 := oT hO s1_10 rfl
 have s2_11 := oT hO s2_10 rfl
 have s3_11 := oT hO s3_10 rfl
 have s4_11 := oT hO s4_10 rfl
 have s5_11 := oT hO s5_10 rfl
 have B1_11 := B1_10.ext' hR
 have B2_11 := B2_10.ext' hR
 have B3_11 := B3_10.ext' hR
 have s22_11 : get a11 22 = Value.bool (true) := t22
 clear E10 N10 D10 s1_10 s2_10 s3_10 s4_10 s5_10 B1_10 B2_10 B3_10
 refine tail_nil ?_
 refine wp_ifT s22_11 ?_
 refine wp_skip ?_
 refine wp_seq ?_
 refine wp_block ?_
 refine wp_seq ?_
 refine Ra [] [(25, Pr.ex (i64 ((0 : Nat) : Int))), (26, Pr.ex (i64 ((0 : Nat) : Int))), (27, Pr.ex (Value.pointer (some ⟨b1, 0, none⟩))), (28, Pr.ex (w32 (v9))), (29, Pr.ex (i64 ((0 : Nat) : Int))), (30, Pr.ex (i64 ((4 : Nat) : Int))), (31, Pr.ex (Value.pointer (some ⟨b1, 4, none⟩))), (32, Pr.ex (w32 ((s.rounds k).e))), (33, Pr.ex (w32 ((v9 : UInt32) + ((s.rounds k).e : UInt32)))), (34, Pr.ex (Value.pointer (some ⟨b1, 0, none⟩)))] 10 mixed N11 D11 ?_ ?_
 refine Ac ?_ (Ac ?_ (Ac ?_ (Ac ?_ (Ac ?_ (Ac ?_ (Ac ?_ (Ac ?_ (Ac ?_ (Ac ?_ (Az _))))))))))
 exact Am s5_11 rfl fun _ => rfl
 exact Am s5_11 rfl fun _ => rfl
 exact Ad fun aq wq _ hO hR hT => does_indexArr (k := .i64) (i := 0) (o' := 0) arr_75 (oT hO s1_11 rfl) (hT 26 rfl rfl) (by decide) (by decide) rfl eR
 exact Ad fun aq wq _ hO hR hT => does_loadD1 (o := 0) (V := w32 (v9)) (hT 27 rfl rfl) (B1_11.ext' hR) rfl one_22 eR
 exact Am s5_11 rfl fun _ => rfl
 exact Ad fun aq wq _ hO hR hT => does_add (a := ((0 : Nat) : Int)) (b := ((4 : Nat) : Int)) (r := ((4 : Nat) : Int)) (hT 29 rfl rfl) rfl (by decide) (by decide) (by decide) eR
 exact Ad fun aq wq _ hO hR hT => does_indexArr (k := .i64) (i := 4) (o' := 4) arr_75 (oT hO s1_11 rfl) (hT 30 rfl rfl) (by decide) (by decide) rfl eR
 exact Ad fun aq wq _ hO hR hT => does_loadD1 (o := 4) (V := w32 ((s.rounds k).e)) (hT 31 rfl rfl) (B1_11.ext' hR) rfl one_22 eR
 exact Ad fun aq wq _ hO hR hT => does_add32 (a := (v9 : UInt32)) (b := ((s.rounds k).e : UInt32)) (hT 28 rfl rfl) (hT 32 rfl rfl) eR
 exact Ad fun aq wq _ hO hR hT => does_indexArr (k := .i64) (i := 0) (o' := 0) arr_75 (oT hO s1_11 rfl) (hT 25 rfl rfl) (by decide) (by decide) rfl eR
 intro a12 wd12 N12 D12 hO hR hA hU
 obtain ⟨_, _, _, _, _, _, _, _, t33, t34, _⟩ := hA
 have E12 := E11.trans hR
 have s1_12 := oT hO s1_11 rfl
 have s2_12 := oT hO s2_11 rfl
 have s3_12 := oT hO s3_11 rfl
 have s4_12 := oT hO s4_11 rfl
 have s5_12 := oT hO s5_11 rfl
 have B1_12 := B1_11.ext' hR
 have B2_12 := B2_11.ext' hR
 have B3_12 := B3_11.ext' hR
 have s33_12 : get a12 33 = w32 ((v9 : UInt32) + ((s.rounds k).e : UInt32)) := t33
 have s34_12 : get a12 34 = Value.pointer (some ⟨b1, 0, none⟩) := t34
 clear E11 N11 D11 s1_11 s2_11 s3_11 s4_11 s5_11 s22_11 B1_11 B2_11 B3_11
 refine tail_none rfl rfl (does_storeD (o := 0) (n := 1) (cs' := [w32 ((v9 : UInt32) + ((s.rounds k).e : UInt32)), w32 ((s.rounds k).b), w32 ((s.rounds k).c), w32 ((s.rounds k).d), w32 ((s.rounds k).e), w32 ((s.rounds k).f), w32 ((s.rounds k).g), w32 ((s.rounds k).h)]) (V := w32 ((v9 : UInt32) + ((s.rounds k).e : UInt32))) s34_12 s33_12 B1_12 (nB rfl) rfl siz_22 rfl rfl (fun wd13 hX hz B1_13 => ?_))
 have E13 := E12.since hX (fun k e => e ▸ fr_b1)
 have B2_13 := B2_12.ext hX ne_b1_b2.symm
 have B3_13 := B3_12.ext hX ne_b1_b3.symm
 clear hX hz E12 B1_12 B2_12 B3_12
 obtain ⟨v14, hv14⟩ : ∃ v : UInt32, (v9 : UInt32) + ((s.rounds k).e : UInt32) = v := ⟨_, rfl⟩
 rw [hv14] at B1_13
 refine tail_nil ?_
 refine Ra [] [(35, Pr.ex (i64 ((0 : Nat) : Int))), (36, Pr.ex (i64 ((4 : Nat) : Int))), (37, Pr.ex (i64 ((0 : Nat) : Int))), (38, Pr.ex (i64 ((4 : Nat) : Int))), (39, Pr.ex (Value.pointer (some ⟨b1, 4, none⟩))), (40, Pr.ex (w32 ((s.rounds k).e))), (41, Pr.ex (i64 ((0 : Nat) : Int))), (42, Pr.ex (Value.pointer (some ⟨b1, 0, none⟩))), (43, Pr.ex (w32 (v14))), (44, Pr.ex (w32 (((s.rounds k).e : UInt32) ^^^ (v14 : UInt32)))), (45, Pr.ex (i64 ((0 : Nat) : Int))), (46, Pr.ex (Value.pointer (some ⟨b3, 0, none⟩))), (47, Pr.ex (i64 ((7 : Nat) : Int))), (48, Pr.ex (w32 (rot (((s.rounds k).e : UInt32) ^^^ (v14 : UInt32)) 7))), (49, Pr.ex (Value.pointer (some ⟨b1, 4, none⟩)))] 15 mixed N12 D12 ?_ ?_
 refine Ac ?_ (Ac ?_ (Ac ?_ (Ac ?_ (Ac ?_ (Ac ?_ (Ac ?_ (Ac ?_ (Ac ?_ (Ac ?_ (Ac ?_ (Ac ?_ (Ac ?_ (Ac ?_ (Ac ?_ (Az _)))))))))))))))
 exact Am s5_12 rfl fun _ => rfl
 exact Ad fun aq wq _ hO hR hT => does_add (a := ((0 : Nat) : Int)) (b := ((4 : Nat) : Int)) (r := ((4 : Nat) : Int)) (hT 35 rfl rfl) rfl (by decide) (by decide) (by decide) eR
 exact Am s5_12 rfl fun _ => rfl
 exact Ad fun aq wq _ hO hR hT => does_add (a := ((0 : Nat) : Int)) (b := ((4 : Nat) : Int)) (r := ((4 : Nat) : Int)) (hT 37 rfl rfl) rfl (by decide) (by decide) (by decide) eR
 exact Ad fun aq wq _ hO hR hT => does_indexArr (k := .i64) (i := 4) (o' := 4) arr_75 (oT hO s1_12 rfl) (hT 38 rfl rfl) (by decide) (by decide) rfl eR
 exact Ad fun aq wq _ hO hR hT => does_loadD1 (o := 4) (V := w32 ((s.rounds k).e)) (hT 39 rfl rfl) (B1_13.ext' hR) rfl one_22 eR
 exact Am s5_12 rfl fun _ => rfl
 exact Ad fun aq wq _ hO hR hT => does_indexArr (k := .i64) (i := 0) (o' := 0) arr_75 (oT hO s1_12 rfl) (hT 41 rfl rfl) (by decide) (by decide) rfl eR
 exact Ad fun aq wq _ hO hR hT => does_loadD1 (o := 0) (V := w32 (v14)) (hT 42 rfl rfl) (B1_13.ext' hR) rfl one_22 eR
 exact Ad fun aq wq _ hO hR hT => does_xor32 (a := ((s.rounds k).e : UInt32)) (b := (v14 : UInt32)) (hT 40 rfl rfl) (hT 43 rfl rfl) eR
 exact Am s5_12 rfl fun _ => rfl
 exact Ad fun aq wq _ hO hR hT => does_indexArr (k := .i64) (i := 0) (o' := 0) arr_113 (oT hO s3_12 rfl) (hT 45 rfl rfl) (by decide) (by decide) rfl eR
 exact Ad fun aq wq _ hO hR hT => does_loadD1 (o := 0) (V := i64 ((7 : Nat) : Int)) (hT 46 rfl rfl) (B3_13.ext' hR) rfl one_3 eR
 exact Ad fun aq wq _ hO hR hT => does_ret (vs := #[w32 (((s.rounds k).e : UInt32) ^^^ (v14 : UInt32)), i64 ((7 : Nat) : Int)]) call_88 (args2 (hT 44 rfl rfl) (hT 47 rfl rfl)) rfl ((turnR (((s.rounds k).e : UInt32) ^^^ (v14 : UInt32)) (7) wq (by decide)).mono fun v w2 h => ⟨h.2, h.1⟩)
 exact Ad fun aq wq _ hO hR hT => does_indexArr (k := .i64) (i := 4) (o' := 4) arr_75 (oT hO s1_12 rfl) (hT 36 rfl rfl) (by decide) (by decide) rfl eR
 intro a15 wd15 N15 D15 hO hR hA hU
 obtain ⟨_, _, _, _, _, _, _, _, _, _, _, _, _, t48, t49, _⟩ := hA
 have E15 := E13.trans hR
 have s1_15 := oT hO s1_12 rfl
 have s2_15 := oT hO s2_12 rfl
 have s3_15 := oT hO s3_12 rfl
 have s4_15 := oT hO s4_12 rfl
 have s5_15 := oT hO s5_12 rfl
 have B1_15 := B1_13.ext' hR
 have B2_15 := B2_13.ext' hR
 have B3_15 := B3_13.ext' hR
 have s48_15 : get a15 48 = w32 (rot (((s.rounds k).e : UInt32) ^^^ (v14 : UInt32)) 7) := t48
 have s49_15 : get a15 49 = Value.pointer (some ⟨b1, 4, none⟩) := t49
 clear E13 N12 D12 s1_12 s2_12 s3_12 s4_12 s5_12 s33_12 s34_12 B1_13 B2_13 B3_13
 refine tail_none rfl rfl (does_storeD (o := 4) (n := 1) (cs' := [w32 (v14), w32 ((s.rounds k).b), w32 ((s.rounds k).c), w32 ((s.rounds k).d), w32 (rot (((s.rounds k).e : UInt32) ^^^ (v14 : UInt32)) 7), w32 ((s.rounds k).f), w32 ((s.rounds k).g), w32 ((s.rounds k).h)]) (V := w32 (rot (((s.rounds k).e : UInt32) ^^^ (v14 : UInt32)) 7)) s49_15 s48_15 B1_15 (nB rfl) rfl siz_22 rfl rfl (fun wd16 hX hz B1_16 => ?_))
 have E16 := E15.since hX (fun k e => e ▸ fr_b1)
 have B2_16 := B2_15.ext hX ne_b1_b2.symm
 have B3_16 := B3_15.ext hX ne_b1_b3.symm
 clear hX hz E15 B1_15 B2_15 B3_15
 obtain ⟨v17, hv17⟩ : ∃ v : UInt32, rot (((s.rounds k).e : UInt32) ^^^ (v14 : UInt32)) 7 = v := ⟨_, rfl⟩
 rw [hv17] at B1_16
 refine tail_nil ?_
 refine Rl [] [(23, Pr.ex (i64 ((0 : Nat) : Int))), (24, Pr.ex (i64 ((1 : Nat) : Int)))] 2 N15 D15 ?_ ?_
 refine Ac ?_ (Ac ?_ (Az _))
 exact Am s5_15 rfl fun _ => rfl
 exact Ap fun aq wq _ hO hR hT => does_add (a := ((0 : Nat) : Int)) (b := ((1 : Nat) : Int)) (r := ((1 : Nat) : Int)) (hT 23 rfl rfl) rfl (by decide) (by decide) (by decide) eR
 intro a18 wd18 N18 D18 hO hR hA hU
 obtain ⟨_, t24, _⟩ := hA
 have E18 := E16.trans hR
 have s1_18 := oT hO s1_15 rfl
 have s2_18 := oT hO s2_15 rfl
 have s3_18 := oT hO s3_15 rfl
 have s4_18 := oT hO s4_15 rfl
 have s5_18 := oT hO s5_15 rfl
 have B1_18 := B1_16.ext' hR
 have B2_18 := B2_16.ext' hR
 have B3_18 := B3_16.ext' hR
 have s24_18 : get a18 24 = i64 ((1 : Nat) : Int) := t24
 clear E16 N15 D15 s1_15 s2_15 s3_15 s4_15 s5_15 s48_15 s49_15 B1_16 B2_16 B3_16
 refine tail_put rfl rfl N18 D18 (by decide) (does_assign (V := i64 ((1 : Nat) : Int)) s24_18 (fun a19 N19 D19 hv hO => ?_))
 have s5_19 := hv
 have s1_19 := oT hO s1_18 rfl
 have s2_19 := oT hO s2_18 rfl
 have s3_19 := oT hO s3_18 rfl
 have s4_19 := oT hO s4_18 rfl
 clear hO hv N18 D18 s1_18 s2_18 s3_18 s4_18 s24_18 s5_18
 refine tail_nil ?_
 refine round_step ?_
 refine wp_seq ?_
 refine wp_seq ?_
 refine Rl [] [(21, Pr.ex (i64 ((1 : Nat) : Int))), (22, Pr.ex (Value.bool (true)))] 2 N19 D19 ?_ ?_
 refine Ac ?_ (Ac ?_ (Az _))
 exact Am s5_19 rfl fun _ => rfl
 exact Ap fun aq wq _ hO hR hT => does_lss (a := ((1 : Nat) : Int)) (b := ((4 : Nat) : Int)) (hT 21 rfl rfl) rfl eR
 intro a20 wd20 N20 D20 hO hR hA hU
 obtain ⟨_, t22, _⟩ := hA
 have E20 := E18.trans hR
 have s1_20 := oT hO s1_19 rfl
 have s2_20 := oT hO s2_19 rfl
 have s3_20 := oT hO s3_19 rfl
 have s4_20 := oT hO s4_19 rfl
 have s5_20 := oT hO s5_19 rfl
 have B1_20 := B1_18.ext' hR
 have B2_20 := B2_18.ext' hR
 have B3_20 := B3_18.ext' hR
 have s22_20 : get a20 22 = Value.bool (true) := t22
 clear E18 N19 D19 s1_19 s2_19 s3_19 s4_19 s5_19 B1_18 B2_18 B3_18
 refine tail_nil ?_
 refine wp_ifT s22_20 ?_
 refine wp_skip ?_
 refine wp_seq ?_
 refine wp_block ?_
 refine wp_seq ?_
 refine Ra [] [(25, Pr.ex (i64 ((1 : Nat) : Int))), (26, Pr.ex (i64 ((1 : Nat) : Int))), (27, Pr.ex (Value.pointer (some ⟨b1, 1, none⟩))), (28, Pr.ex (w32 ((s.rounds k).b))), (29, Pr.ex (i64 ((1 : Nat) : Int))), (30, Pr.ex (i64 ((5 : Nat) : Int))), (31, Pr.ex (Value.pointer (some ⟨b1, 5, none⟩))), (32, Pr.ex (w32 ((s.rounds k).f))), (33, Pr.ex (w32 (((s.rounds k).b : UInt32) + ((s.rounds k).f : UInt32)))), (34, Pr.ex (Value.pointer (some ⟨b1, 1, none⟩)))] 10 mixed N20 D20 ?_ ?_
 refine Ac ?_ (Ac ?_ (Ac ?_ (Ac ?_ (Ac ?_ (Ac ?_ (Ac ?_ (Ac ?_ (Ac ?_ (Ac ?_ (Az _))))))))))
 exact Am s5_20 rfl fun _ => rfl
 exact Am s5_20 rfl fun _ => rfl
 exact Ad fun aq wq _ hO hR hT => does_indexArr (k := .i64) (i := 1) (o' := 1) arr_75 (oT hO s1_20 rfl) (hT 26 rfl rfl) (by decide) (by decide) rfl eR
 exact Ad fun aq wq _ hO hR hT => does_loadD1 (o := 1) (V := w32 ((s.rounds k).b)) (hT 27 rfl rfl) (B1_20.ext' hR) rfl one_22 eR
 exact Am s5_20 rfl fun _ => rfl
 exact Ad fun aq wq _ hO hR hT => does_add (a := ((1 : Nat) : Int)) (b := ((4 : Nat) : Int)) (r := ((5 : Nat) : Int)) (hT 29 rfl rfl) rfl (by decide) (by decide) (by decide) eR
 exact Ad fun aq wq _ hO hR hT => does_indexArr (k := .i64) (i := 5) (o' := 5) arr_75 (oT hO s1_20 rfl) (hT 30 rfl rfl) (by decide) (by decide) rfl eR
 exact Ad fun aq wq _ hO hR hT => does_loadD1 (o := 5) (V := w32 ((s.rounds k).f)) (hT 31 rfl rfl) (B1_20.ext' hR) rfl one_22 eR
 exact Ad fun aq wq _ hO hR hT => does_add32 (a := ((s.rounds k).b : UInt32)) (b := ((s.rounds k).f : UInt32)) (hT 28 rfl rfl) (hT 32 rfl rfl) eR
 exact Ad fun aq wq _ hO hR hT => does_indexArr (k := .i64) (i := 1) (o' := 1) arr_75 (oT hO s1_20 rfl) (hT 25 rfl rfl) (by decide) (by decide) rfl eR
 intro a21 wd21 N21 D21 hO hR hA hU
 obtain ⟨_, _, _, _, _, _, _, _, t33, t34, _⟩ := hA
 have E21 := E20.trans hR
 have s1_21 := oT hO s1_20 rfl
 have s2_21 := oT hO s2_20 rfl
 have s3_21 := oT hO s3_20 rfl
 have s4_21 := oT hO s4_20 rfl
 have s5_21 := oT hO s5_20 rfl
 have B1_21 := B1_20.ext' hR
 have B2_21 := B2_20.ext' hR
 have B3_21 := B3_20.ext' hR
 have s33_21 : get a21 33 = w32 (((s.rounds k).b : UInt32) + ((s.rounds k).f : UInt32)) := t33
 have s34_21 : get a21 34 = Value.pointer (some ⟨b1, 1, none⟩) := t34
 clear E20 N20 D20 s1_20 s2_20 s3_20 s4_20 s5_20 s22_20 B1_20 B2_20 B3_20
 refine tail_none rfl rfl (does_storeD (o := 1) (n := 1) (cs' := [w32 (v14), w32 (((s.rounds k).b : UInt32) + ((s.rounds k).f : UInt32)), w32 ((s.rounds k).c), w32 ((s.rounds k).d), w32 (v17), w32 ((s.rounds k).f), w32 ((s.rounds k).g), w32 ((s.rounds k).h)]) (V := w32 (((s.rounds k).b : UInt32) + ((s.rounds k).f : UInt32))) s34_21 s33_21 B1_21 (nB rfl) rfl siz_22 rfl rfl (fun wd22 hX hz B1_22 => ?_))
 have E22 := E21.since hX (fun k e => e ▸ fr_b1)
 have B2_22 := B2_21.ext hX ne_b1_b2.symm
 have B3_22 := B3_21.ext hX ne_b1_b3.symm
 clear hX hz E21 B1_21 B2_21 B3_21
 obtain ⟨v23, hv23⟩ : ∃ v : UInt32, ((s.rounds k).b : UInt32) + ((s.rounds k).f : UInt32) = v := ⟨_, rfl⟩
 rw [hv23] at B1_22
 refine tail_nil ?_
 refine Ra [] [(35, Pr.ex (i64 ((1 : Nat) : Int))), (36, Pr.ex (i64 ((5 : Nat) : Int))), (37, Pr.ex (i64 ((1 : Nat) : Int))), (38, Pr.ex (i64 ((5 : Nat) : Int))), (39, Pr.ex (Value.pointer (some ⟨b1, 5, none⟩))), (40, Pr.ex (w32 ((s.rounds k).f))), (41, Pr.ex (i64 ((1 : Nat) : Int))), (42, Pr.ex (Value.pointer (some ⟨b1, 1, none⟩))), (43, Pr.ex (w32 (v23))), (44, Pr.ex (w32 (((s.rounds k).f : UInt32) ^^^ (v23 : UInt32)))), (45, Pr.ex (i64 ((1 : Nat) : Int))), (46, Pr.ex (Value.pointer (some ⟨b3, 1, none⟩))), (47, Pr.ex (i64 ((9 : Nat) : Int))), (48, Pr.ex (w32 (rot (((s.rounds k).f : UInt32) ^^^ (v23 : UInt32)) 9))), (49, Pr.ex (Value.pointer (some ⟨b1, 5, none⟩)))] 15 mixed N21 D21 ?_ ?_
 refine Ac ?_ (Ac ?_ (Ac ?_ (Ac ?_ (Ac ?_ (Ac ?_ (Ac ?_ (Ac ?_ (Ac ?_ (Ac ?_ (Ac ?_ (Ac ?_ (Ac ?_ (Ac ?_ (Ac ?_ (Az _)))))))))))))))
 exact Am s5_21 rfl fun _ => rfl
 exact Ad fun aq wq _ hO hR hT => does_add (a := ((1 : Nat) : Int)) (b := ((4 : Nat) : Int)) (r := ((5 : Nat) : Int)) (hT 35 rfl rfl) rfl (by decide) (by decide) (by decide) eR
 exact Am s5_21 rfl fun _ => rfl
 exact Ad fun aq wq _ hO hR hT => does_add (a := ((1 : Nat) : Int)) (b := ((4 : Nat) : Int)) (r := ((5 : Nat) : Int)) (hT 37 rfl rfl) rfl (by decide) (by decide) (by decide) eR
 exact Ad fun aq wq _ hO hR hT => does_indexArr (k := .i64) (i := 5) (o' := 5) arr_75 (oT hO s1_21 rfl) (hT 38 rfl rfl) (by decide) (by decide) rfl eR
 exact Ad fun aq wq _ hO hR hT => does_loadD1 (o := 5) (V := w32 ((s.rounds k).f)) (hT 39 rfl rfl) (B1_22.ext' hR) rfl one_22 eR
 exact Am s5_21 rfl fun _ => rfl
 exact Ad fun aq wq _ hO hR hT => does_indexArr (k := .i64) (i := 1) (o' := 1) arr_75 (oT hO s1_21 rfl) (hT 41 rfl rfl) (by decide) (by decide) rfl eR
 exact Ad fun aq wq _ hO hR hT => does_loadD1 (o := 1) (V := w32 (v23)) (hT 42 rfl rfl) (B1_22.ext' hR) rfl one_22 eR
 exact Ad fun aq wq _ hO hR hT => does_xor32 (a := ((s.rounds k).f : UInt32)) (b := (v23 : UInt32)) (hT 40 rfl rfl) (hT 43 rfl rfl) eR
 exact Am s5_21 rfl fun _ => rfl
 exact Ad fun aq wq _ hO hR hT => does_indexArr (k := .i64) (i := 1) (o' := 1) arr_113 (oT hO s3_21 rfl) (hT 45 rfl rfl) (by decide) (by decide) rfl eR
 exact Ad fun aq wq _ hO hR hT => does_loadD1 (o := 1) (V := i64 ((9 : Nat) : Int)) (hT 46 rfl rfl) (B3_22.ext' hR) rfl one_3 eR
 exact Ad fun aq wq _ hO hR hT => does_ret (vs := #[w32 (((s.rounds k).f : UInt32) ^^^ (v23 : UInt32)), i64 ((9 : Nat) : Int)]) call_88 (args2 (hT 44 rfl rfl) (hT 47 rfl rfl)) rfl ((turnR (((s.rounds k).f : UInt32) ^^^ (v23 : UInt32)) (9) wq (by decide)).mono fun v w2 h => ⟨h.2, h.1⟩)
 exact Ad fun aq wq _ hO hR hT => does_indexArr (k := .i64) (i := 5) (o' := 5) arr_75 (oT hO s1_21 rfl) (hT 36 rfl rfl) (by decide) (by decide) rfl eR
 intro a24 wd24 N24 D24 hO hR hA hU
 obtain ⟨_, _, _, _, _, _, _, _, _, _, _, _, _, t48, t49, _⟩ := hA
 have E24 := E22.trans hR
 have s1_24 := oT hO s1_21 rfl
 have s2_24 := oT hO s2_21 rfl
 have s3_24 := oT hO s3_21 rfl
 have s4_24 := oT hO s4_21 rfl
 have s5_24 := oT hO s5_21 rfl
 have B1_24 := B1_22.ext' hR
 have B2_24 := B2_22.ext' hR
 have B3_24 := B3_22.ext' hR
 have s48_24 : get a24 48 = w32 (rot (((s.rounds k).f : UInt32) ^^^ (v23 : UInt32)) 9) := t48
 have s49_24 : get a24 49 = Value.pointer (some ⟨b1, 5, none⟩) := t49
 clear E22 N21 D21 s1_21 s2_21 s3_21 s4_21 s5_21 s33_21 s34_21 B1_22 B2_22 B3_22
 refine tail_none rfl rfl (does_storeD (o := 5) (n := 1) (cs' := [w32 (v14), w32 (v23), w32 ((s.rounds k).c), w32 ((s.rounds k).d), w32 (v17), w32 (rot (((s.rounds k).f : UInt32) ^^^ (v23 : UInt32)) 9), w32 ((s.rounds k).g), w32 ((s.rounds k).h)]) (V := w32 (rot (((s.rounds k).f : UInt32) ^^^ (v23 : UInt32)) 9)) s49_24 s48_24 B1_24 (nB rfl) rfl siz_22 rfl rfl (fun wd25 hX hz B1_25 => ?_))
 have E25 := E24.since hX (fun k e => e ▸ fr_b1)
 have B2_25 := B2_24.ext hX ne_b1_b2.symm
 have B3_25 := B3_24.ext hX ne_b1_b3.symm
 clear hX hz E24 B1_24 B2_24 B3_24
 obtain ⟨v26, hv26⟩ : ∃ v : UInt32, rot (((s.rounds k).f : UInt32) ^^^ (v23 : UInt32)) 9 = v := ⟨_, rfl⟩
 rw [hv26] at B1_25
 refine tail_nil ?_
 refine Rl [] [(23, Pr.ex (i64 ((1 : Nat) : Int))), (24, Pr.ex (i64 ((2 : Nat) : Int)))] 2 N24 D24 ?_ ?_
 refine Ac ?_ (Ac ?_ (Az _))
 exact Am s5_24 rfl fun _ => rfl
 exact Ap fun aq wq _ hO hR hT => does_add (a := ((1 : Nat) : Int)) (b := ((1 : Nat) : Int)) (r := ((2 : Nat) : Int)) (hT 23 rfl rfl) rfl (by decide) (by decide) (by decide) eR
 intro a27 wd27 N27 D27 hO hR hA hU
 obtain ⟨_, t24, _⟩ := hA
 have E27 := E25.trans hR
 have s1_27 := oT hO s1_24 rfl
 have s2_27 := oT hO s2_24 rfl
 have s3_27 := oT hO s3_24 rfl
 have s4_27 := oT hO s4_24 rfl
 have s5_27 := oT hO s5_24 rfl
 have B1_27 := B1_25.ext' hR
 have B2_27 := B2_25.ext' hR
 have B3_27 := B3_25.ext' hR
 have s24_27 : get a27 24 = i64 ((2 : Nat) : Int) := t24
 clear E25 N24 D24 s1_24 s2_24 s3_24 s4_24 s5_24 s48_24 s49_24 B1_25 B2_25 B3_25
 refine tail_put rfl rfl N27 D27 (by decide) (does_assign (V := i64 ((2 : Nat) : Int)) s24_27 (fun a28 N28 D28 hv hO => ?_))
 have s5_28 := hv
 have s1_28 := oT hO s1_27 rfl
 have s2_28 := oT hO s2_27 rfl
 have s3_28 := oT hO s3_27 rfl
 have s4_28 := oT hO s4_27 rfl
 clear hO hv N27 D27 s1_27 s2_27 s3_27 s4_27 s24_27 s5_27
 refine tail_nil ?_
 refine round_step ?_
 refine wp_seq ?_
 refine wp_seq ?_
 refine Rl [] [(21, Pr.ex (i64 ((2 : Nat) : Int))), (22, Pr.ex (Value.bool (true)))] 2 N28 D28 ?_ ?_
 refine Ac ?_ (Ac ?_ (Az _))
 exact Am s5_28 rfl fun _ => rfl
 exact Ap fun aq wq _ hO hR hT => does_lss (a := ((2 : Nat) : Int)) (b := ((4 : Nat) : Int)) (hT 21 rfl rfl) rfl eR
 intro a29 wd29 N29 D29 hO hR hA hU
 obtain ⟨_, t22, _⟩ := hA
 have E29 := E27.trans hR
 have s1_29 := oT hO s1_28 rfl
 have s2_29 := oT hO s2_28 rfl
 have s3_29 := oT hO s3_28 rfl
 have s4_29 := oT hO s4_28 rfl
 have s5_29 := oT hO s5_28 rfl
 have B1_29 := B1_27.ext' hR
 have B2_29 := B2_27.ext' hR
 have B3_29 := B3_27.ext' hR
 have s22_29 : get a29 22 = Value.bool (true) := t22
 clear E27 N28 D28 s1_28 s2_28 s3_28 s4_28 s5_28 B1_27 B2_27 B3_27
 refine tail_nil ?_
 refine wp_ifT s22_29 ?_
 refine wp_skip ?_
 refine wp_seq ?_
 refine wp_block ?_
 refine wp_seq ?_
 refine Ra [] [(25, Pr.ex (i64 ((2 : Nat) : Int))), (26, Pr.ex (i64 ((2 : Nat) : Int))), (27, Pr.ex (Value.pointer (some ⟨b1, 2, none⟩))), (28, Pr.ex (w32 ((s.rounds k).c))), (29, Pr.ex (i64 ((2 : Nat) : Int))), (30, Pr.ex (i64 ((6 : Nat) : Int))), (31, Pr.ex (Value.pointer (some ⟨b1, 6, none⟩))), (32, Pr.ex (w32 ((s.rounds k).g))), (33, Pr.ex (w32 (((s.rounds k).c : UInt32) + ((s.rounds k).g : UInt32)))), (34, Pr.ex (Value.pointer (some ⟨b1, 2, none⟩)))] 10 mixed N29 D29 ?_ ?_
 refine Ac ?_ (Ac ?_ (Ac ?_ (Ac ?_ (Ac ?_ (Ac ?_ (Ac ?_ (Ac ?_ (Ac ?_ (Ac ?_ (Az _))))))))))
 exact Am s5_29 rfl fun _ => rfl
 exact Am s5_29 rfl fun _ => rfl
 exact Ad fun aq wq _ hO hR hT => does_indexArr (k := .i64) (i := 2) (o' := 2) arr_75 (oT hO s1_29 rfl) (hT 26 rfl rfl) (by decide) (by decide) rfl eR
 exact Ad fun aq wq _ hO hR hT => does_loadD1 (o := 2) (V := w32 ((s.rounds k).c)) (hT 27 rfl rfl) (B1_29.ext' hR) rfl one_22 eR
 exact Am s5_29 rfl fun _ => rfl
 exact Ad fun aq wq _ hO hR hT => does_add (a := ((2 : Nat) : Int)) (b := ((4 : Nat) : Int)) (r := ((6 : Nat) : Int)) (hT 29 rfl rfl) rfl (by decide) (by decide) (by decide) eR
 exact Ad fun aq wq _ hO hR hT => does_indexArr (k := .i64) (i := 6) (o' := 6) arr_75 (oT hO s1_29 rfl) (hT 30 rfl rfl) (by decide) (by decide) rfl eR
 exact Ad fun aq wq _ hO hR hT => does_loadD1 (o := 6) (V := w32 ((s.rounds k).g)) (hT 31 rfl rfl) (B1_29.ext' hR) rfl one_22 eR
 exact Ad fun aq wq _ hO hR hT => does_add32 (a := ((s.rounds k).c : UInt32)) (b := ((s.rounds k).g : UInt32)) (hT 28 rfl rfl) (hT 32 rfl rfl) eR
 exact Ad fun aq wq _ hO hR hT => does_indexArr (k := .i64) (i := 2) (o' := 2) arr_75 (oT hO s1_29 rfl) (hT 25 rfl rfl) (by decide) (by decide) rfl eR
 intro a30 wd30 N30 D30 hO hR hA hU
 obtain ⟨_, _, _, _, _, _, _, _, t33, t34, _⟩ := hA
 have E30 := E29.trans hR
 have s1_30 := oT hO s1_29 rfl
 have s2_30 := oT hO s2_29 rfl
 have s3_30 := oT hO s3_29 rfl
 have s4_30 := oT hO s4_29 rfl
 have s5_30 := oT hO s5_29 rfl
 have B1_30 := B1_29.ext' hR
 have B2_30 := B2_29.ext' hR
 have B3_30 := B3_29.ext' hR
 have s33_30 : get a30 33 = w32 (((s.rounds k).c : UInt32) + ((s.rounds k).g : UInt32)) := t33
 have s34_30 : get a30 34 = Value.pointer (some ⟨b1, 2, none⟩) := t34
 clear E29 N29 D29 s1_29 s2_29 s3_29 s4_29 s5_29 s22_29 B1_29 B2_29 B3_29
 refine tail_none rfl rfl (does_storeD (o := 2) (n := 1) (cs' := [w32 (v14), w32 (v23), w32 (((s.rounds k).c : UInt32) + ((s.rounds k).g : UInt32)), w32 ((s.rounds k).d), w32 (v17), w32 (v26), w32 ((s.rounds k).g), w32 ((s.rounds k).h)]) (V := w32 (((s.rounds k).c : UInt32) + ((s.rounds k).g : UInt32))) s34_30 s33_30 B1_30 (nB rfl) rfl siz_22 rfl rfl (fun wd31 hX hz B1_31 => ?_))
 have E31 := E30.since hX (fun k e => e ▸ fr_b1)
 have B2_31 := B2_30.ext hX ne_b1_b2.symm
 have B3_31 := B3_30.ext hX ne_b1_b3.symm
 clear hX hz E30 B1_30 B2_30 B3_30
 obtain ⟨v32, hv32⟩ : ∃ v : UInt32, ((s.rounds k).c : UInt32) + ((s.rounds k).g : UInt32) = v := ⟨_, rfl⟩
 rw [hv32] at B1_31
 refine tail_nil ?_
 refine Ra [] [(35, Pr.ex (i64 ((2 : Nat) : Int))), (36, Pr.ex (i64 ((6 : Nat) : Int))), (37, Pr.ex (i64 ((2 : Nat) : Int))), (38, Pr.ex (i64 ((6 : Nat) : Int))), (39, Pr.ex (Value.pointer (some ⟨b1, 6, none⟩))), (40, Pr.ex (w32 ((s.rounds k).g))), (41, Pr.ex (i64 ((2 : Nat) : Int))), (42, Pr.ex (Value.pointer (some ⟨b1, 2, none⟩))), (43, Pr.ex (w32 (v32))), (44, Pr.ex (w32 (((s.rounds k).g : UInt32) ^^^ (v32 : UInt32)))), (45, Pr.ex (i64 ((2 : Nat) : Int))), (46, Pr.ex (Value.pointer (some ⟨b3, 2, none⟩))), (47, Pr.ex (i64 ((13 : Nat) : Int))), (48, Pr.ex (w32 (rot (((s.rounds k).g : UInt32) ^^^ (v32 : UInt32)) 13))), (49, Pr.ex (Value.pointer (some ⟨b1, 6, none⟩)))] 15 mixed N30 D30 ?_ ?_
 refine Ac ?_ (Ac ?_ (Ac ?_ (Ac ?_ (Ac ?_ (Ac ?_ (Ac ?_ (Ac ?_ (Ac ?_ (Ac ?_ (Ac ?_ (Ac ?_ (Ac ?_ (Ac ?_ (Ac ?_ (Az _)))))))))))))))
 exact Am s5_30 rfl fun _ => rfl
 exact Ad fun aq wq _ hO hR hT => does_add (a := ((2 : Nat) : Int)) (b := ((4 : Nat) : Int)) (r := ((6 : Nat) : Int)) (hT 35 rfl rfl) rfl (by decide) (by decide) (by decide) eR
 exact Am s5_30 rfl fun _ => rfl
 exact Ad fun aq wq _ hO hR hT => does_add (a := ((2 : Nat) : Int)) (b := ((4 : Nat) : Int)) (r := ((6 : Nat) : Int)) (hT 37 rfl rfl) rfl (by decide) (by decide) (by decide) eR
 exact Ad fun aq wq _ hO hR hT => does_indexArr (k := .i64) (i := 6) (o' := 6) arr_75 (oT hO s1_30 rfl) (hT 38 rfl rfl) (by decide) (by decide) rfl eR
 exact Ad fun aq wq _ hO hR hT => does_loadD1 (o := 6) (V := w32 ((s.rounds k).g)) (hT 39 rfl rfl) (B1_31.ext' hR) rfl one_22 eR
 exact Am s5_30 rfl fun _ => rfl
 exact Ad fun aq wq _ hO hR hT => does_indexArr (k := .i64) (i := 2) (o' := 2) arr_75 (oT hO s1_30 rfl) (hT 41 rfl rfl) (by decide) (by decide) rfl eR
 exact Ad fun aq wq _ hO hR hT => does_loadD1 (o := 2) (V := w32 (v32)) (hT 42 rfl rfl) (B1_31.ext' hR) rfl one_22 eR
 exact Ad fun aq wq _ hO hR hT => does_xor32 (a := ((s.rounds k).g : UInt32)) (b := (v32 : UInt32)) (hT 40 rfl rfl) (hT 43 rfl rfl) eR
 exact Am s5_30 rfl fun _ => rfl
 exact Ad fun aq wq _ hO hR hT => does_indexArr (k := .i64) (i := 2) (o' := 2) arr_113 (oT hO s3_30 rfl) (hT 45 rfl rfl) (by decide) (by decide) rfl eR
 exact Ad fun aq wq _ hO hR hT => does_loadD1 (o := 2) (V := i64 ((13 : Nat) : Int)) (hT 46 rfl rfl) (B3_31.ext' hR) rfl one_3 eR
 exact Ad fun aq wq _ hO hR hT => does_ret (vs := #[w32 (((s.rounds k).g : UInt32) ^^^ (v32 : UInt32)), i64 ((13 : Nat) : Int)]) call_88 (args2 (hT 44 rfl rfl) (hT 47 rfl rfl)) rfl ((turnR (((s.rounds k).g : UInt32) ^^^ (v32 : UInt32)) (13) wq (by decide)).mono fun v w2 h => ⟨h.2, h.1⟩)
 exact Ad fun aq wq _ hO hR hT => does_indexArr (k := .i64) (i := 6) (o' := 6) arr_75 (oT hO s1_30 rfl) (hT 36 rfl rfl) (by decide) (by decide) rfl eR
 intro a33 wd33 N33 D33 hO hR hA hU
 obtain ⟨_, _, _, _, _, _, _, _, _, _, _, _, _, t48, t49, _⟩ := hA
 have E33 := E31.trans hR
 have s1_33 := oT hO s1_30 rfl
 have s2_33 := oT hO s2_30 rfl
 have s3_33 := oT hO s3_30 rfl
 have s4_33 := oT hO s4_30 rfl
 have s5_33 := oT hO s5_30 rfl
 have B1_33 := B1_31.ext' hR
 have B2_33 := B2_31.ext' hR
 have B3_33 := B3_31.ext' hR
 have s48_33 : get a33 48 = w32 (rot (((s.rounds k).g : UInt32) ^^^ (v32 : UInt32)) 13) := t48
 have s49_33 : get a33 49 = Value.pointer (some ⟨b1, 6, none⟩) := t49
 clear E31 N30 D30 s1_30 s2_30 s3_30 s4_30 s5_30 s33_30 s34_30 B1_31 B2_31 B3_31
 refine tail_none rfl rfl (does_storeD (o := 6) (n := 1) (cs' := [w32 (v14), w32 (v23), w32 (v32), w32 ((s.rounds k).d), w32 (v17), w32 (v26), w32 (rot (((s.rounds k).g : UInt32) ^^^ (v32 : UInt32)) 13), w32 ((s.rounds k).h)]) (V := w32 (rot (((s.rounds k).g : UInt32) ^^^ (v32 : UInt32)) 13)) s49_33 s48_33 B1_33 (nB rfl) rfl siz_22 rfl rfl (fun wd34 hX hz B1_34 => ?_))
 have E34 := E33.since hX (fun k e => e ▸ fr_b1)
 have B2_34 := B2_33.ext hX ne_b1_b2.symm
 have B3_34 := B3_33.ext hX ne_b1_b3.symm
 clear hX hz E33 B1_33 B2_33 B3_33
 obtain ⟨v35, hv35⟩ : ∃ v : UInt32, rot (((s.rounds k).g : UInt32) ^^^ (v32 : UInt32)) 13 = v := ⟨_, rfl⟩
 rw [hv35] at B1_34
 refine tail_nil ?_
 refine Rl [] [(23, Pr.ex (i64 ((2 : Nat) : Int))), (24, Pr.ex (i64 ((3 : Nat) : Int)))] 2 N33 D33 ?_ ?_
 refine Ac ?_ (Ac ?_ (Az _))
 exact Am s5_33 rfl fun _ => rfl
 exact Ap fun aq wq _ hO hR hT => does_add (a := ((2 : Nat) : Int)) (b := ((1 : Nat) : Int)) (r := ((3 : Nat) : Int)) (hT 23 rfl rfl) rfl (by decide) (by decide) (by decide) eR
 intro a36 wd36 N36 D36 hO hR hA hU
 obtain ⟨_, t24, _⟩ := hA
 have E36 := E34.trans hR
 have s1_36 := oT hO s1_33 rfl
 have s2_36 := oT hO s2_33 rfl
 have s3_36 := oT hO s3_33 rfl
 have s4_36 := oT hO s4_33 rfl
 have s5_36 := oT hO s5_33 rfl
 have B1_36 := B1_34.ext' hR
 have B2_36 := B2_34.ext' hR
 have B3_36 := B3_34.ext' hR
 have s24_36 : get a36 24 = i64 ((3 : Nat) : Int) := t24
 clear E34 N33 D33 s1_33 s2_33 s3_33 s4_33 s5_33 s48_33 s49_33 B1_34 B2_34 B3_34
 refine tail_put rfl rfl N36 D36 (by decide) (does_assign (V := i64 ((3 : Nat) : Int)) s24_36 (fun a37 N37 D37 hv hO => ?_))
 have s5_37 := hv
 have s1_37 := oT hO s1_36 rfl
 have s2_37 := oT hO s2_36 rfl
 have s3_37 := oT hO s3_36 rfl
 have s4_37 := oT hO s4_36 rfl
 clear hO hv N36 D36 s1_36 s2_36 s3_36 s4_36 s24_36 s5_36
 refine tail_nil ?_
 refine round_step ?_
 refine wp_seq ?_
 refine wp_seq ?_
 refine Rl [] [(21, Pr.ex (i64 ((3 : Nat) : Int))), (22, Pr.ex (Value.bool (true)))] 2 N37 D37 ?_ ?_
 refine Ac ?_ (Ac ?_ (Az _))
 exact Am s5_37 rfl fun _ => rfl
 exact Ap fun aq wq _ hO hR hT => does_lss (a := ((3 : Nat) : Int)) (b := ((4 : Nat) : Int)) (hT 21 rfl rfl) rfl eR
 intro a38 wd38 N38 D38 hO hR hA hU
 obtain ⟨_, t22, _⟩ := hA
 have E38 := E36.trans hR
 have s1_38 := oT hO s1_37 rfl
 have s2_38 := oT hO s2_37 rfl
 have s3_38 := oT hO s3_37 rfl
 have s4_38 := oT hO s4_37 rfl
 have s5_38 := oT hO s5_37 rfl
 have B1_38 := B1_36.ext' hR
 have B2_38 := B2_36.ext' hR
 have B3_38 := B3_36.ext' hR
 have s22_38 : get a38 22 = Value.bool (true) := t22
 clear E36 N37 D37 s1_37 s2_37 s3_37 s4_37 s5_37 B1_36 B2_36 B3_36
 refine tail_nil ?_
 refine wp_ifT s22_38 ?_
 refine wp_skip ?_
 refine wp_seq ?_
 refine wp_block ?_
 refine wp_seq ?_
 refine Ra [] [(25, Pr.ex (i64 ((3 : Nat) : Int))), (26, Pr.ex (i64 ((3 : Nat) : Int))), (27, Pr.ex (Value.pointer (some ⟨b1, 3, none⟩))), (28, Pr.ex (w32 ((s.rounds k).d))), (29, Pr.ex (i64 ((3 : Nat) : Int))), (30, Pr.ex (i64 ((7 : Nat) : Int))), (31, Pr.ex (Value.pointer (some ⟨b1, 7, none⟩))), (32, Pr.ex (w32 ((s.rounds k).h))), (33, Pr.ex (w32 (((s.rounds k).d : UInt32) + ((s.rounds k).h : UInt32)))), (34, Pr.ex (Value.pointer (some ⟨b1, 3, none⟩)))] 10 mixed N38 D38 ?_ ?_
 refine Ac ?_ (Ac ?_ (Ac ?_ (Ac ?_ (Ac ?_ (Ac ?_ (Ac ?_ (Ac ?_ (Ac ?_ (Ac ?_ (Az _))))))))))
 exact Am s5_38 rfl fun _ => rfl
 exact Am s5_38 rfl fun _ => rfl
 exact Ad fun aq wq _ hO hR hT => does_indexArr (k := .i64) (i := 3) (o' := 3) arr_75 (oT hO s1_38 rfl) (hT 26 rfl rfl) (by decide) (by decide) rfl eR
 exact Ad fun aq wq _ hO hR hT => does_loadD1 (o := 3) (V := w32 ((s.rounds k).d)) (hT 27 rfl rfl) (B1_38.ext' hR) rfl one_22 eR
 exact Am s5_38 rfl fun _ => rfl
 exact Ad fun aq wq _ hO hR hT => does_add (a := ((3 : Nat) : Int)) (b := ((4 : Nat) : Int)) (r := ((7 : Nat) : Int)) (hT 29 rfl rfl) rfl (by decide) (by decide) (by decide) eR
 exact Ad fun aq wq _ hO hR hT => does_indexArr (k := .i64) (i := 7) (o' := 7) arr_75 (oT hO s1_38 rfl) (hT 30 rfl rfl) (by decide) (by decide) rfl eR
 exact Ad fun aq wq _ hO hR hT => does_loadD1 (o := 7) (V := w32 ((s.rounds k).h)) (hT 31 rfl rfl) (B1_38.ext' hR) rfl one_22 eR
 exact Ad fun aq wq _ hO hR hT => does_add32 (a := ((s.rounds k).d : UInt32)) (b := ((s.rounds k).h : UInt32)) (hT 28 rfl rfl) (hT 32 rfl rfl) eR
 exact Ad fun aq wq _ hO hR hT => does_indexArr (k := .i64) (i := 3) (o' := 3) arr_75 (oT hO s1_38 rfl) (hT 25 rfl rfl) (by decide) (by decide) rfl eR
 intro a39 wd39 N39 D39 hO hR hA hU
 obtain ⟨_, _, _, _, _, _, _, _, t33, t34, _⟩ := hA
 have E39 := E38.trans hR
 have s1_39 := oT hO s1_38 rfl
 have s2_39 := oT hO s2_38 rfl
 have s3_39 := oT hO s3_38 rfl
 have s4_39 := oT hO s4_38 rfl
 have s5_39 := oT hO s5_38 rfl
 have B1_39 := B1_38.ext' hR
 have B2_39 := B2_38.ext' hR
 have B3_39 := B3_38.ext' hR
 have s33_39 : get a39 33 = w32 (((s.rounds k).d : UInt32) + ((s.rounds k).h : UInt32)) := t33
 have s34_39 : get a39 34 = Value.pointer (some ⟨b1, 3, none⟩) := t34
 clear E38 N38 D38 s1_38 s2_38 s3_38 s4_38 s5_38 s22_38 B1_38 B2_38 B3_38
 refine tail_none rfl rfl (does_storeD (o := 3) (n := 1) (cs' := [w32 (v14), w32 (v23), w32 (v32), w32 (((s.rounds k).d : UInt32) + ((s.rounds k).h : UInt32)), w32 (v17), w32 (v26), w32 (v35), w32 ((s.rounds k).h)]) (V := w32 (((s.rounds k).d : UInt32) + ((s.rounds k).h : UInt32))) s34_39 s33_39 B1_39 (nB rfl) rfl siz_22 rfl rfl (fun wd40 hX hz B1_40 => ?_))
 have E40 := E39.since hX (fun k e => e ▸ fr_b1)
 have B2_40 := B2_39.ext hX ne_b1_b2.symm
 have B3_40 := B3_39.ext hX ne_b1_b3.symm
 clear hX hz E39 B1_39 B2_39 B3_39
 obtain ⟨v41, hv41⟩ : ∃ v : UInt32, ((s.rounds k).d : UInt32) + ((s.rounds k).h : UInt32) = v := ⟨_, rfl⟩
 rw [hv41] at B1_40
 refine tail_nil ?_
 refine Ra [] [(35, Pr.ex (i64 ((3 : Nat) : Int))), (36, Pr.ex (i64 ((7 : Nat) : Int))), (37, Pr.ex (i64 ((3 : Nat) : Int))), (38, Pr.ex (i64 ((7 : Nat) : Int))), (39, Pr.ex (Value.pointer (some ⟨b1, 7, none⟩))), (40, Pr.ex (w32 ((s.rounds k).h))), (41, Pr.ex (i64 ((3 : Nat) : Int))), (42, Pr.ex (Value.pointer (some ⟨b1, 3, none⟩))), (43, Pr.ex (w32 (v41))), (44, Pr.ex (w32 (((s.rounds k).h : UInt32) ^^^ (v41 : UInt32)))), (45, Pr.ex (i64 ((3 : Nat) : Int))), (46, Pr.ex (Value.pointer (some ⟨b3, 3, none⟩))), (47, Pr.ex (i64 ((18 : Nat) : Int))), (48, Pr.ex (w32 (rot (((s.rounds k).h : UInt32) ^^^ (v41 : UInt32)) 18))), (49, Pr.ex (Value.pointer (some ⟨b1, 7, none⟩)))] 15 mixed N39 D39 ?_ ?_
 refine Ac ?_ (Ac ?_ (Ac ?_ (Ac ?_ (Ac ?_ (Ac ?_ (Ac ?_ (Ac ?_ (Ac ?_ (Ac ?_ (Ac ?_ (Ac ?_ (Ac ?_ (Ac ?_ (Ac ?_ (Az _)))))))))))))))
 exact Am s5_39 rfl fun _ => rfl
 exact Ad fun aq wq _ hO hR hT => does_add (a := ((3 : Nat) : Int)) (b := ((4 : Nat) : Int)) (r := ((7 : Nat) : Int)) (hT 35 rfl rfl) rfl (by decide) (by decide) (by decide) eR
 exact Am s5_39 rfl fun _ => rfl
 exact Ad fun aq wq _ hO hR hT => does_add (a := ((3 : Nat) : Int)) (b := ((4 : Nat) : Int)) (r := ((7 : Nat) : Int)) (hT 37 rfl rfl) rfl (by decide) (by decide) (by decide) eR
 exact Ad fun aq wq _ hO hR hT => does_indexArr (k := .i64) (i := 7) (o' := 7) arr_75 (oT hO s1_39 rfl) (hT 38 rfl rfl) (by decide) (by decide) rfl eR
 exact Ad fun aq wq _ hO hR hT => does_loadD1 (o := 7) (V := w32 ((s.rounds k).h)) (hT 39 rfl rfl) (B1_40.ext' hR) rfl one_22 eR
 exact Am s5_39 rfl fun _ => rfl
 exact Ad fun aq wq _ hO hR hT => does_indexArr (k := .i64) (i := 3) (o' := 3) arr_75 (oT hO s1_39 rfl) (hT 41 rfl rfl) (by decide) (by decide) rfl eR
 exact Ad fun aq wq _ hO hR hT => does_loadD1 (o := 3) (V := w32 (v41)) (hT 42 rfl rfl) (B1_40.ext' hR) rfl one_22 eR
 exact Ad fun aq wq _ hO hR hT => does_xor32 (a := ((s.rounds k).h : UInt32)) (b := (v41 : UInt32)) (hT 40 rfl rfl) (hT 43 rfl rfl) eR
 exact Am s5_39 rfl fun _ => rfl
 exact Ad fun aq wq _ hO hR hT => does_indexArr (k := .i64) (i := 3) (o' := 3) arr_113 (oT hO s3_39 rfl) (hT 45 rfl rfl) (by decide) (by decide) rfl eR
 exact Ad fun aq wq _ hO hR hT => does_loadD1 (o := 3) (V := i64 ((18 : Nat) : Int)) (hT 46 rfl rfl) (B3_40.ext' hR) rfl one_3 eR
 exact Ad fun aq wq _ hO hR hT => does_ret (vs := #[w32 (((s.rounds k).h : UInt32) ^^^ (v41 : UInt32)), i64 ((18 : Nat) : Int)]) call_88 (args2 (hT 44 rfl rfl) (hT 47 rfl rfl)) rfl ((turnR (((s.rounds k).h : UInt32) ^^^ (v41 : UInt32)) (18) wq (by decide)).mono fun v w2 h => ⟨h.2, h.1⟩)
 exact Ad fun aq wq _ hO hR hT => does_indexArr (k := .i64) (i := 7) (o' := 7) arr_75 (oT hO s1_39 rfl) (hT 36 rfl rfl) (by decide) (by decide) rfl eR
 intro a42 wd42 N42 D42 hO hR hA hU
 obtain ⟨_, _, _, _, _, _, _, _, _, _, _, _, _, t48, t49, _⟩ := hA
 have E42 := E40.trans hR
 have s1_42 := oT hO s1_39 rfl
 have s2_42 := oT hO s2_39 rfl
 have s3_42 := oT hO s3_39 rfl
 have s4_42 := oT hO s4_39 rfl
 have s5_42 := oT hO s5_39 rfl
 have B1_42 := B1_40.ext' hR
 have B2_42 := B2_40.ext' hR
 have B3_42 := B3_40.ext' hR
 have s48_42 : get a42 48 = w32 (rot (((s.rounds k).h : UInt32) ^^^ (v41 : UInt32)) 18) := t48
 have s49_42 : get a42 49 = Value.pointer (some ⟨b1, 7, none⟩) := t49
 clear E40 N39 D39 s1_39 s2_39 s3_39 s4_39 s5_39 s33_39 s34_39 B1_40 B2_40 B3_40
 refine tail_none rfl rfl (does_storeD (o := 7) (n := 1) (cs' := [w32 (v14), w32 (v23), w32 (v32), w32 (v41), w32 (v17), w32 (v26), w32 (v35), w32 (rot (((s.rounds k).h : UInt32) ^^^ (v41 : UInt32)) 18)]) (V := w32 (rot (((s.rounds k).h : UInt32) ^^^ (v41 : UInt32)) 18)) s49_42 s48_42 B1_42 (nB rfl) rfl siz_22 rfl rfl (fun wd43 hX hz B1_43 => ?_))
 have E43 := E42.since hX (fun k e => e ▸ fr_b1)
 have B2_43 := B2_42.ext hX ne_b1_b2.symm
 have B3_43 := B3_42.ext hX ne_b1_b3.symm
 clear hX hz E42 B1_42 B2_42 B3_42
 obtain ⟨v44, hv44⟩ : ∃ v : UInt32, rot (((s.rounds k).h : UInt32) ^^^ (v41 : UInt32)) 18 = v := ⟨_, rfl⟩
 rw [hv44] at B1_43
 refine tail_nil ?_
 refine Rl [] [(23, Pr.ex (i64 ((3 : Nat) : Int))), (24, Pr.ex (i64 ((4 : Nat) : Int)))] 2 N42 D42 ?_ ?_
 refine Ac ?_ (Ac ?_ (Az _))
 exact Am s5_42 rfl fun _ => rfl
 exact Ap fun aq wq _ hO hR hT => does_add (a := ((3 : Nat) : Int)) (b := ((1 : Nat) : Int)) (r := ((4 : Nat) : Int)) (hT 23 rfl rfl) rfl (by decide) (by decide) (by decide) eR
 intro a45 wd45 N45 D45 hO hR hA hU
 obtain ⟨_, t24, _⟩ := hA
 have E45 := E43.trans hR
 have s1_45 := oT hO s1_42 rfl
 have s2_45 := oT hO s2_42 rfl
 have s3_45 := oT hO s3_42 rfl
 have s4_45 := oT hO s4_42 rfl
 have s5_45 := oT hO s5_42 rfl
 have B1_45 := B1_43.ext' hR
 have B2_45 := B2_43.ext' hR
 have B3_45 := B3_43.ext' hR
 have s24_45 : get a45 24 = i64 ((4 : Nat) : Int) := t24
 clear E43 N42 D42 s1_42 s2_42 s3_42 s4_42 s5_42 s48_42 s49_42 B1_43 B2_43 B3_43
 refine tail_put rfl rfl N45 D45 (by decide) (does_assign (V := i64 ((4 : Nat) : Int)) s24_45 (fun a46 N46 D46 hv hO => ?_))
 have s5_46 := hv
 have s1_46 := oT hO s1_45 rfl
 have s2_46 := oT hO s2_45 rfl
 have s3_46 := oT hO s3_45 rfl
 have s4_46 := oT hO s4_45 rfl
 clear hO hv N45 D45 s1_45 s2_45 s3_45 s4_45 s24_45 s5_45
 refine tail_nil ?_
 refine round_step ?_
 refine wp_seq ?_
 refine wp_seq ?_
 refine Rl [] [(21, Pr.ex (i64 ((4 : Nat) : Int))), (22, Pr.ex (Value.bool (false)))] 2 N46 D46 ?_ ?_
 refine Ac ?_ (Ac ?_ (Az _))
 exact Am s5_46 rfl fun _ => rfl
 exact Ap fun aq wq _ hO hR hT => does_lss (a := ((4 : Nat) : Int)) (b := ((4 : Nat) : Int)) (hT 21 rfl rfl) rfl eR
 intro a47 wd47 N47 D47 hO hR hA hU
 obtain ⟨_, t22, _⟩ := hA
 have E47 := E45.trans hR
 have s1_47 := oT hO s1_46 rfl
 have s2_47 := oT hO s2_46 rfl
 have s3_47 := oT hO s3_46 rfl
 have s4_47 := oT hO s4_46 rfl
 have s5_47 := oT hO s5_46 rfl
 have B1_47 := B1_45.ext' hR
 have B2_47 := B2_45.ext' hR
 have B3_47 := B3_45.ext' hR
 have s22_47 : get a47 22 = Value.bool (false) := t22
 clear E45 N46 D46 s1_46 s2_46 s3_46 s4_46 s5_46 B1_45 B2_45 B3_45
 refine tail_nil ?_
 refine wp_ifF s22_47 ?_
 refine wp_exit ?_
 refine wp_seq ?_
 refine Rl [6] [(6, Pr.box' wd47.heap.size 75 [w32 (0), w32 (0), w32 (0), w32 (0), w32 (0), w32 (0), w32 (0), w32 (0)])] 1 N47 D47 ?_ ?_
 refine Ac ?_ (Az _)
 refine Ask.fresh rfl rfl ?_
 intro aq wq hNq hO hR hT
 exact does_alloc zero_75 (fun b w2 he hlo hb => ⟨he, ⟨b, rfl, Nat.le_trans hR.size' hlo, hb⟩, ⟨b, rfl, hlo, hb.lt⟩⟩)
 intro a48 wd48 N48 D48 hO hR hA hU
 obtain ⟨t6, _⟩ := hA
 have E48 := E47.trans hR
 have s1_48 := oT hO s1_47 rfl
 have s2_48 := oT hO s2_47 rfl
 have s3_48 := oT hO s3_47 rfl
 have s4_48 := oT hO s4_47 rfl
 have B1_48 := B1_47.ext' hR
 have B2_48 := B2_47.ext' hR
 have B3_48 := B3_47.ext' hR
 obtain ⟨b6, s6_48, lo_b6, B6_48⟩ := t6
 have ne_b1_b6 := Hl B1_47 lo_b6
 have ne_b2_b6 := Hl B2_47 lo_b6
 have ne_b3_b6 := Hl B3_47 lo_b6
 have fr_b6 : w0.heap.size ≤ b6 := Nat.le_trans E47.size' lo_b6
 clear E47 N47 D47 s1_47 s2_47 s3_47 s4_47 s5_47 s22_47 B1_47 B2_47 B3_47
 refine tail_nil ?_
 refine wp_seq ?_
 refine wp_seq ?_
 refine Rl [] [(7, Pr.ex (i64 ((0 : Nat) : Int)))] 1 N48 D48 ?_ ?_
 refine Ac ?_ (Az _)
 exact Ap fun aq wq _ hO hR hT => does_assign (V := i64 ((0 : Nat) : Int)) rfl eR
 intro a49 wd49 N49 D49 hO hR hA hU
 obtain ⟨t7, _⟩ := hA
 have E49 := E48.trans hR
 have s1_49 := oT hO s1_48 rfl
 have s2_49 := oT hO s2_48 rfl
 have s3_49 := oT hO s3_48 rfl
 have s4_49 := oT hO s4_48 rfl
 have s6_49 := oT hO s6_48 rfl
 have B1_49 := B1_48.ext' hR
 have B2_49 := B2_48.ext' hR
 have B3_49 := B3_48.ext' hR
 have B6_49 := B6_48.ext' hR
 have s7_49 : get a49 7 = i64 ((0 : Nat) : Int) := t7
 clear E48 N48 D48 s1_48 s2_48 s3_48 s4_48 s6_48 B1_48 B2_48 B3_48 B6_48
 refine tail_nil ?_
 refine wp_block ?_
 refine loop_rounds 9 ?_
 refine round_step ?_
 refine wp_seq ?_
 refine wp_seq ?_
 refine Rl [] [(50, Pr.ex (i64 ((0 : Nat) : Int))), (51, Pr.ex (Value.bool (true)))] 2 N49 D49 ?_ ?_
 refine Ac ?_ (Ac ?_ (Az _))
 exact Am s7_49 rfl fun _ => rfl
 exact Ap fun aq wq _ hO hR hT => does_lss (a := ((0 : Nat) : Int)) (b := ((8 : Nat) : Int)) (hT 50 rfl rfl) rfl eR
 intro a50 wd50 N50 D50 hO hR hA hU
 obtain ⟨_, t51, _⟩ := hA
 have E50 := E49.trans hR
 have s1_50 := oT hO s1_49 rfl
 have s2_50 := oT hO s2_49 rfl
 have s3_50 := oT hO s3_49 rfl
 have s4_50 := oT hO s4_49 rfl
 have s6_50 := oT hO s6_49 rfl
 have s7_50 := oT hO s7_49 rfl
 have B1_50 := B1_49.ext' hR
 have B2_50 := B2_49.ext' hR
 have B3_50 := B3_49.ext' hR
 have B6_50 := B6_49.ext' hR
 have s51_50 : get a50 51 = Value.bool (true) := t51
 clear E49 N49 D49 s1_49 s2_49 s3_49 s4_49 s6_49 s7_49 B1_49 B2_49 B3_49 B6_49
 refine tail_nil ?_
 refine wp_ifT s51_50 ?_
 refine wp_skip ?_
 refine wp_seq ?_
 refine wp_block ?_
 refine Rl [] [(54, Pr.ex (i64 ((0 : Nat) : Int))), (55, Pr.ex (i64 ((0 : Nat) : Int))), (56, Pr.ex (i64 ((3 : Nat) : Int))), (57, Pr.ex (i64 ((3 : Nat) : Int))), (58, Pr.ex (Value.pointer (some ⟨b1, 3, none⟩))), (59, Pr.ex (w32 (v41))), (60, Pr.ex (Value.pointer (some ⟨b6, 0, none⟩)))] 7 N50 D50 ?_ ?_
 refine Ac ?_ (Ac ?_ (Ac ?_ (Ac ?_ (Ac ?_ (Ac ?_ (Ac ?_ (Az _)))))))
 exact Am s7_50 rfl fun _ => rfl
 exact Am s7_50 rfl fun _ => rfl
 exact Ap fun aq wq _ hO hR hT => does_add (a := ((0 : Nat) : Int)) (b := ((3 : Nat) : Int)) (r := ((3 : Nat) : Int)) (hT 55 rfl rfl) rfl (by decide) (by decide) (by decide) eR
 exact Ap fun aq wq _ hO hR hT => does_rem (k := .i64) (a := ((3 : Nat) : Int)) (b := ((8 : Nat) : Int)) (r := ((3 : Nat) : Int)) (hT 56 rfl rfl) rfl (by decide) (by decide) (by decide) eR
 exact Ap fun aq wq _ hO hR hT => does_indexArr (k := .i64) (i := 3) (o' := 3) arr_75 (oT hO s1_50 rfl) (hT 57 rfl rfl) (by decide) (by decide) rfl eR
 exact Ap fun aq wq _ hO hR hT => does_loadD1 (o := 3) (V := w32 (v41)) (hT 58 rfl rfl) (B1_50.ext' hR) rfl one_22 eR
 exact Ap fun aq wq _ hO hR hT => does_indexArr (k := .i64) (i := 0) (o' := 0) arr_75 (oT hO s6_50 rfl) (hT 54 rfl rfl) (by decide) (by decide) rfl eR
 intro a51 wd51 N51 D51 hO hR hA hU
 obtain ⟨_, _, _, _, _, t59, t60, _⟩ := hA
 have E51 := E50.trans hR
 have s1_51 := oT hO s1_50 rfl
 have s2_51 := oT hO s2_50 rfl
 have s3_51 := oT hO s3_50 rfl
 have s4_51 := oT hO s4_50 rfl
 have s6_51 := oT hO s6_50 rfl
 have s7_51 := oT hO s7_50 rfl
 have B1_51 := B1_50.ext' hR
 have B2_51 := B2_50.ext' hR
 have B3_51 := B3_50.ext' hR
 have B6_51 := B6_50.ext' hR
 have s59_51 : get a51 59 = w32 (v41) := t59
 have s60_51 : get a51 60 = Value.pointer (some ⟨b6, 0, none⟩) := t60
 clear E50 N50 D50 s1_50 s2_50 s3_50 s4_50 s6_50 s7_50 s51_50 B1_50 B2_50 B3_50 B6_50
 refine tail_none rfl rfl (does_storeD (o := 0) (n := 1) (cs' := [w32 (v41), w32 (0), w32 (0), w32 (0), w32 (0), w32 (0), w32 (0), w32 (0)]) (V := w32 (v41)) s60_51 s59_51 B6_51 (nB rfl) rfl siz_22 rfl rfl (fun wd52 hX hz B6_52 => ?_))
 have E52 := E51.since hX (fun k e => e ▸ fr_b6)
 have B1_52 := B1_51.ext hX ne_b1_b6
 have B2_52 := B2_51.ext hX ne_b2_b6
 have B3_52 := B3_51.ext hX ne_b3_b6
 clear hX hz E51 B1_51 B2_51 B3_51 B6_51
 refine tail_nil ?_
 refine Rl [] [(52, Pr.ex (i64 ((0 : Nat) : Int))), (53, Pr.ex (i64 ((1 : Nat) : Int)))] 2 N51 D51 ?_ ?_
 refine Ac ?_ (Ac ?_ (Az _))
 exact Am s7_51 rfl fun _ => rfl
 exact Ap fun aq wq _ hO hR hT => does_add (a := ((0 : Nat) : Int)) (b := ((1 : Nat) : Int)) (r := ((1 : Nat) : Int)) (hT 52 rfl rfl) rfl (by decide) (by decide) (by decide) eR
 intro a53 wd53 N53 D53 hO hR hA hU
 obtain ⟨_, t53, _⟩ := hA
 have E53 := E52.trans hR
 have s1_53 := oT hO s1_51 rfl
 have s2_53 := oT hO s2_51 rfl
 have s3_53 := oT hO s3_51 rfl
 have s4_53 := oT hO s4_51 rfl
 have s6_53 := oT hO s6_51 rfl
 have s7_53 := oT hO s7_51 rfl
 have B1_53 := B1_52.ext' hR
 have B2_53 := B2_52.ext' hR
 have B3_53 := B3_52.ext' hR
 have B6_53 := B6_52.ext' hR
 have s53_53 : get a53 53 = i64 ((1 : Nat) : Int) := t53
 clear E52 N51 D51 s1_51 s2_51 s3_51 s4_51 s6_51 s7_51 s59_51 s60_51 B1_52 B2_52 B3_52 B6_52
 refine tail_put rfl rfl N53 D53 (by decide) (does_assign (V := i64 ((1 : Nat) : Int)) s53_53 (fun a54 N54 D54 hv hO => ?_))
 have s7_54 := hv
 have s1_54 := oT hO s1_53 rfl
 have s2_54 := oT hO s2_53 rfl
 have s3_54 := oT hO s3_53 rfl
 have s4_54 := oT hO s4_53 rfl
 have s6_54 := oT hO s6_53 rfl
 clear hO hv N53 D53 s1_53 s2_53 s3_53 s4_53 s6_53 s53_53 s7_53
 refine tail_nil ?_
 refine round_step ?_
 refine wp_seq ?_
 refine wp_seq ?_
 refine Rl [] [(50, Pr.ex (i64 ((1 : Nat) : Int))), (51, Pr.ex (Value.bool (true)))] 2 N54 D54 ?_ ?_
 refine Ac ?_ (Ac ?_ (Az _))
 exact Am s7_54 rfl fun _ => rfl
 exact Ap fun aq wq _ hO hR hT => does_lss (a := ((1 : Nat) : Int)) (b := ((8 : Nat) : Int)) (hT 50 rfl rfl) rfl eR
 intro a55 wd55 N55 D55 hO hR hA hU
 obtain ⟨_, t51, _⟩ := hA
 have E55 := E53.trans hR
 have s1_55 := oT hO s1_54 rfl
 have s2_55 := oT hO s2_54 rfl
 have s3_55 := oT hO s3_54 rfl
 have s4_55 := oT hO s4_54 rfl
 have s6_55 := oT hO s6_54 rfl
 have s7_55 := oT hO s7_54 rfl
 have B1_55 := B1_53.ext' hR
 have B2_55 := B2_53.ext' hR
 have B3_55 := B3_53.ext' hR
 have B6_55 := B6_53.ext' hR
 have s51_55 : get a55 51 = Value.bool (true) := t51
 clear E53 N54 D54 s1_54 s2_54 s3_54 s4_54 s6_54 s7_54 B1_53 B2_53 B3_53 B6_53
 refine tail_nil ?_
 refine wp_ifT s51_55 ?_
 refine wp_skip ?_
 refine wp_seq ?_
 refine wp_block ?_
 refine Rl [] [(54, Pr.ex (i64 ((1 : Nat) : Int))), (55, Pr.ex (i64 ((1 : Nat) : Int))), (56, Pr.ex (i64 ((4 : Nat) : Int))), (57, Pr.ex (i64 ((4 : Nat) : Int))), (58, Pr.ex (Value.pointer (some ⟨b1, 4, none⟩))), (59, Pr.ex (w32 (v17))), (60, Pr.ex (Value.pointer (some ⟨b6, 1, none⟩)))] 7 N55 D55 ?_ ?_
 refine Ac ?_ (Ac ?_ (Ac ?_ (Ac ?_ (Ac ?_ (Ac ?_ (Ac ?_ (Az _)))))))
 exact Am s7_55 rfl fun _ => rfl
 exact Am s7_55 rfl fun _ => rfl
 exact Ap fun aq wq _ hO hR hT => does_add (a := ((1 : Nat) : Int)) (b := ((3 : Nat) : Int)) (r := ((4 : Nat) : Int)) (hT 55 rfl rfl) rfl (by decide) (by decide) (by decide) eR
 exact Ap fun aq wq _ hO hR hT => does_rem (k := .i64) (a := ((4 : Nat) : Int)) (b := ((8 : Nat) : Int)) (r := ((4 : Nat) : Int)) (hT 56 rfl rfl) rfl (by decide) (by decide) (by decide) eR
 exact Ap fun aq wq _ hO hR hT => does_indexArr (k := .i64) (i := 4) (o' := 4) arr_75 (oT hO s1_55 rfl) (hT 57 rfl rfl) (by decide) (by decide) rfl eR
 exact Ap fun aq wq _ hO hR hT => does_loadD1 (o := 4) (V := w32 (v17)) (hT 58 rfl rfl) (B1_55.ext' hR) rfl one_22 eR
 exact Ap fun aq wq _ hO hR hT => does_indexArr (k := .i64) (i := 1) (o' := 1) arr_75 (oT hO s6_55 rfl) (hT 54 rfl rfl) (by decide) (by decide) rfl eR
 intro a56 wd56 N56 D56 hO hR hA hU
 obtain ⟨_, _, _, _, _, t59, t60, _⟩ := hA
 have E56 := E55.trans hR
 have s1_56 := oT hO s1_55 rfl
 have s2_56 := oT hO s2_55 rfl
 have s3_56 := oT hO s3_55 rfl
 have s4_56 := oT hO s4_55 rfl
 have s6_56 := oT hO s6_55 rfl
 have s7_56 := oT hO s7_55 rfl
 have B1_56 := B1_55.ext' hR
 have B2_56 := B2_55.ext' hR
 have B3_56 := B3_55.ext' hR
 have B6_56 := B6_55.ext' hR
 have s59_56 : get a56 59 = w32 (v17) := t59
 have s60_56 : get a56 60 = Value.pointer (some ⟨b6, 1, none⟩) := t60
 clear E55 N55 D55 s1_55 s2_55 s3_55 s4_55 s6_55 s7_55 s51_55 B1_55 B2_55 B3_55 B6_55
 refine tail_none rfl rfl (does_storeD (o := 1) (n := 1) (cs' := [w32 (v41), w32 (v17), w32 (0), w32 (0), w32 (0), w32 (0), w32 (0), w32 (0)]) (V := w32 (v17)) s60_56 s59_56 B6_56 (nB rfl) rfl siz_22 rfl rfl (fun wd57 hX hz B6_57 => ?_))
 have E57 := E56.since hX (fun k e => e ▸ fr_b6)
 have B1_57 := B1_56.ext hX ne_b1_b6
 have B2_57 := B2_56.ext hX ne_b2_b6
 have B3_57 := B3_56.ext hX ne_b3_b6
 clear hX hz E56 B1_56 B2_56 B3_56 B6_56
 refine tail_nil ?_
 refine Rl [] [(52, Pr.ex (i64 ((1 : Nat) : Int))), (53, Pr.ex (i64 ((2 : Nat) : Int)))] 2 N56 D56 ?_ ?_
 refine Ac ?_ (Ac ?_ (Az _))
 exact Am s7_56 rfl fun _ => rfl
 exact Ap fun aq wq _ hO hR hT => does_add (a := ((1 : Nat) : Int)) (b := ((1 : Nat) : Int)) (r := ((2 : Nat) : Int)) (hT 52 rfl rfl) rfl (by decide) (by decide) (by decide) eR
 intro a58 wd58 N58 D58 hO hR hA hU
 obtain ⟨_, t53, _⟩ := hA
 have E58 := E57.trans hR
 have s1_58 := oT hO s1_56 rfl
 have s2_58 := oT hO s2_56 rfl
 have s3_58 := oT hO s3_56 rfl
 have s4_58 := oT hO s4_56 rfl
 have s6_58 := oT hO s6_56 rfl
 have s7_58 := oT hO s7_56 rfl
 have B1_58 := B1_57.ext' hR
 have B2_58 := B2_57.ext' hR
 have B3_58 := B3_57.ext' hR
 have B6_58 := B6_57.ext' hR
 have s53_58 : get a58 53 = i64 ((2 : Nat) : Int) := t53
 clear E57 N56 D56 s1_56 s2_56 s3_56 s4_56 s6_56 s7_56 s59_56 s60_56 B1_57 B2_57 B3_57 B6_57
 refine tail_put rfl rfl N58 D58 (by decide) (does_assign (V := i64 ((2 : Nat) : Int)) s53_58 (fun a59 N59 D59 hv hO => ?_))
 have s7_59 := hv
 have s1_59 := oT hO s1_58 rfl
 have s2_59 := oT hO s2_58 rfl
 have s3_59 := oT hO s3_58 rfl
 have s4_59 := oT hO s4_58 rfl
 have s6_59 := oT hO s6_58 rfl
 clear hO hv N58 D58 s1_58 s2_58 s3_58 s4_58 s6_58 s53_58 s7_58
 refine tail_nil ?_
 refine round_step ?_
 refine wp_seq ?_
 refine wp_seq ?_
 refine Rl [] [(50, Pr.ex (i64 ((2 : Nat) : Int))), (51, Pr.ex (Value.bool (true)))] 2 N59 D59 ?_ ?_
 refine Ac ?_ (Ac ?_ (Az _))
 exact Am s7_59 rfl fun _ => rfl
 exact Ap fun aq wq _ hO hR hT => does_lss (a := ((2 : Nat) : Int)) (b := ((8 : Nat) : Int)) (hT 50 rfl rfl) rfl eR
 intro a60 wd60 N60 D60 hO hR hA hU
 obtain ⟨_, t51, _⟩ := hA
 have E60 := E58.trans hR
 have s1_60 := oT hO s1_59 rfl
 have s2_60 := oT hO s2_59 rfl
 have s3_60 := oT hO s3_59 rfl
 have s4_60 := oT hO s4_59 rfl
 have s6_60 := oT hO s6_59 rfl
 have s7_60 := oT hO s7_59 rfl
 have B1_60 := B1_58.ext' hR
 have B2_60 := B2_58.ext' hR
 have B3_60 := B3_58.ext' hR
 have B6_60 := B6_58.ext' hR
 have s51_60 : get a60 51 = Value.bool (true) := t51
 clear E58 N59 D59 s1_59 s2_59 s3_59 s4_59 s6_59 s7_59 B1_58 B2_58 B3_58 B6_58
 refine tail_nil ?_
 refine wp_ifT s51_60 ?_
 refine wp_skip ?_
 refine wp_seq ?_
 refine wp_block ?_
 refine Rl [] [(54, Pr.ex (i64 ((2 : Nat) : Int))), (55, Pr.ex (i64 ((2 : Nat) : Int))), (56, Pr.ex (i64 ((5 : Nat) : Int))), (57, Pr.ex (i64 ((5 : Nat) : Int))), (58, Pr.ex (Value.pointer (some ⟨b1, 5, none⟩))), (59, Pr.ex (w32 (v26))), (60, Pr.ex (Value.pointer (some ⟨b6, 2, none⟩)))] 7 N60 D60 ?_ ?_
 refine Ac ?_ (Ac ?_ (Ac ?_ (Ac ?_ (Ac ?_ (Ac ?_ (Ac ?_ (Az _)))))))
 exact Am s7_60 rfl fun _ => rfl
 exact Am s7_60 rfl fun _ => rfl
 exact Ap fun aq wq _ hO hR hT => does_add (a := ((2 : Nat) : Int)) (b := ((3 : Nat) : Int)) (r := ((5 : Nat) : Int)) (hT 55 rfl rfl) rfl (by decide) (by decide) (by decide) eR
 exact Ap fun aq wq _ hO hR hT => does_rem (k := .i64) (a := ((5 : Nat) : Int)) (b := ((8 : Nat) : Int)) (r := ((5 : Nat) : Int)) (hT 56 rfl rfl) rfl (by decide) (by decide) (by decide) eR
 exact Ap fun aq wq _ hO hR hT => does_indexArr (k := .i64) (i := 5) (o' := 5) arr_75 (oT hO s1_60 rfl) (hT 57 rfl rfl) (by decide) (by decide) rfl eR
 exact Ap fun aq wq _ hO hR hT => does_loadD1 (o := 5) (V := w32 (v26)) (hT 58 rfl rfl) (B1_60.ext' hR) rfl one_22 eR
 exact Ap fun aq wq _ hO hR hT => does_indexArr (k := .i64) (i := 2) (o' := 2) arr_75 (oT hO s6_60 rfl) (hT 54 rfl rfl) (by decide) (by decide) rfl eR
 intro a61 wd61 N61 D61 hO hR hA hU
 obtain ⟨_, _, _, _, _, t59, t60, _⟩ := hA
 have E61 := E60.trans hR
 have s1_61 := oT hO s1_60 rfl
 have s2_61 := oT hO s2_60 rfl
 have s3_61 := oT hO s3_60 rfl
 have s4_61 := oT hO s4_60 rfl
 have s6_61 := oT hO s6_60 rfl
 have s7_61 := oT hO s7_60 rfl
 have B1_61 := B1_60.ext' hR
 have B2_61 := B2_60.ext' hR
 have B3_61 := B3_60.ext' hR
 have B6_61 := B6_60.ext' hR
 have s59_61 : get a61 59 = w32 (v26) := t59
 have s60_61 : get a61 60 = Value.pointer (some ⟨b6, 2, none⟩) := t60
 clear E60 N60 D60 s1_60 s2_60 s3_60 s4_60 s6_60 s7_60 s51_60 B1_60 B2_60 B3_60 B6_60
 refine tail_none rfl rfl (does_storeD (o := 2) (n := 1) (cs' := [w32 (v41), w32 (v17), w32 (v26), w32 (0), w32 (0), w32 (0), w32 (0), w32 (0)]) (V := w32 (v26)) s60_61 s59_61 B6_61 (nB rfl) rfl siz_22 rfl rfl (fun wd62 hX hz B6_62 => ?_))
 have E62 := E61.since hX (fun k e => e ▸ fr_b6)
 have B1_62 := B1_61.ext hX ne_b1_b6
 have B2_62 := B2_61.ext hX ne_b2_b6
 have B3_62 := B3_61.ext hX ne_b3_b6
 clear hX hz E61 B1_61 B2_61 B3_61 B6_61
 refine tail_nil ?_
 refine Rl [] [(52, Pr.ex (i64 ((2 : Nat) : Int))), (53, Pr.ex (i64 ((3 : Nat) : Int)))] 2 N61 D61 ?_ ?_
 refine Ac ?_ (Ac ?_ (Az _))
 exact Am s7_61 rfl fun _ => rfl
 exact Ap fun aq wq _ hO hR hT => does_add (a := ((2 : Nat) : Int)) (b := ((1 : Nat) : Int)) (r := ((3 : Nat) : Int)) (hT 52 rfl rfl) rfl (by decide) (by decide) (by decide) eR
 intro a63 wd63 N63 D63 hO hR hA hU
 obtain ⟨_, t53, _⟩ := hA
 have E63 := E62.trans hR
 have s1_63 := oT hO s1_61 rfl
 have s2_63 := oT hO s2_61 rfl
 have s3_63 := oT hO s3_61 rfl
 have s4_63 := oT hO s4_61 rfl
 have s6_63 := oT hO s6_61 rfl
 have s7_63 := oT hO s7_61 rfl
 have B1_63 := B1_62.ext' hR
 have B2_63 := B2_62.ext' hR
 have B3_63 := B3_62.ext' hR
 have B6_63 := B6_62.ext' hR
 have s53_63 : get a63 53 = i64 ((3 : Nat) : Int) := t53
 clear E62 N61 D61 s1_61 s2_61 s3_61 s4_61 s6_61 s7_61 s59_61 s60_61 B1_62 B2_62 B3_62 B6_62
 refine tail_put rfl rfl N63 D63 (by decide) (does_assign (V := i64 ((3 : Nat) : Int)) s53_63 (fun a64 N64 D64 hv hO => ?_))
 have s7_64 := hv
 have s1_64 := oT hO s1_63 rfl
 have s2_64 := oT hO s2_63 rfl
 have s3_64 := oT hO s3_63 rfl
 have s4_64 := oT hO s4_63 rfl
 have s6_64 := oT hO s6_63 rfl
 clear hO hv N63 D63 s1_63 s2_63 s3_63 s4_63 s6_63 s53_63 s7_63
 refine tail_nil ?_
 refine round_step ?_
 refine wp_seq ?_
 refine wp_seq ?_
 refine Rl [] [(50, Pr.ex (i64 ((3 : Nat) : Int))), (51, Pr.ex (Value.bool (true)))] 2 N64 D64 ?_ ?_
 refine Ac ?_ (Ac ?_ (Az _))
 exact Am s7_64 rfl fun _ => rfl
 exact Ap fun aq wq _ hO hR hT => does_lss (a := ((3 : Nat) : Int)) (b := ((8 : Nat) : Int)) (hT 50 rfl rfl) rfl eR
 intro a65 wd65 N65 D65 hO hR hA hU
 obtain ⟨_, t51, _⟩ := hA
 have E65 := E63.trans hR
 have s1_65 := oT hO s1_64 rfl
 have s2_65 := oT hO s2_64 rfl
 have s3_65 := oT hO s3_64 rfl
 have s4_65 := oT hO s4_64 rfl
 have s6_65 := oT hO s6_64 rfl
 have s7_65 := oT hO s7_64 rfl
 have B1_65 := B1_63.ext' hR
 have B2_65 := B2_63.ext' hR
 have B3_65 := B3_63.ext' hR
 have B6_65 := B6_63.ext' hR
 have s51_65 : get a65 51 = Value.bool (true) := t51
 clear E63 N64 D64 s1_64 s2_64 s3_64 s4_64 s6_64 s7_64 B1_63 B2_63 B3_63 B6_63
 refine tail_nil ?_
 refine wp_ifT s51_65 ?_
 refine wp_skip ?_
 refine wp_seq ?_
 refine wp_block ?_
 refine Rl [] [(54, Pr.ex (i64 ((3 : Nat) : Int))), (55, Pr.ex (i64 ((3 : Nat) : Int))), (56, Pr.ex (i64 ((6 : Nat) : Int))), (57, Pr.ex (i64 ((6 : Nat) : Int))), (58, Pr.ex (Value.pointer (some ⟨b1, 6, none⟩))), (59, Pr.ex (w32 (v35))), (60, Pr.ex (Value.pointer (some ⟨b6, 3, none⟩)))] 7 N65 D65 ?_ ?_
 refine Ac ?_ (Ac ?_ (Ac ?_ (Ac ?_ (Ac ?_ (Ac ?_ (Ac ?_ (Az _)))))))
 exact Am s7_65 rfl fun _ => rfl
 exact Am s7_65 rfl fun _ => rfl
 exact Ap fun aq wq _ hO hR hT => does_add (a := ((3 : Nat) : Int)) (b := ((3 : Nat) : Int)) (r := ((6 : Nat) : Int)) (hT 55 rfl rfl) rfl (by decide) (by decide) (by decide) eR
 exact Ap fun aq wq _ hO hR hT => does_rem (k := .i64) (a := ((6 : Nat) : Int)) (b := ((8 : Nat) : Int)) (r := ((6 : Nat) : Int)) (hT 56 rfl rfl) rfl (by decide) (by decide) (by decide) eR
 exact Ap fun aq wq _ hO hR hT => does_indexArr (k := .i64) (i := 6) (o' := 6) arr_75 (oT hO s1_65 rfl) (hT 57 rfl rfl) (by decide) (by decide) rfl eR
 exact Ap fun aq wq _ hO hR hT => does_loadD1 (o := 6) (V := w32 (v35)) (hT 58 rfl rfl) (B1_65.ext' hR) rfl one_22 eR
 exact Ap fun aq wq _ hO hR hT => does_indexArr (k := .i64) (i := 3) (o' := 3) arr_75 (oT hO s6_65 rfl) (hT 54 rfl rfl) (by decide) (by decide) rfl eR
 intro a66 wd66 N66 D66 hO hR hA hU
 obtain ⟨_, _, _, _, _, t59, t60, _⟩ := hA
 have E66 := E65.trans hR
 have s1_66 := oT hO s1_65 rfl
 have s2_66 := oT hO s2_65 rfl
 have s3_66 := oT hO s3_65 rfl
 have s4_66 := oT hO s4_65 rfl
 have s6_66 := oT hO s6_65 rfl
 have s7_66 := oT hO s7_65 rfl
 have B1_66 := B1_65.ext' hR
 have B2_66 := B2_65.ext' hR
 have B3_66 := B3_65.ext' hR
 have B6_66 := B6_65.ext' hR
 have s59_66 : get a66 59 = w32 (v35) := t59
 have s60_66 : get a66 60 = Value.pointer (some ⟨b6, 3, none⟩) := t60
 clear E65 N65 D65 s1_65 s2_65 s3_65 s4_65 s6_65 s7_65 s51_65 B1_65 B2_65 B3_65 B6_65
 refine tail_none rfl rfl (does_storeD (o := 3) (n := 1) (cs' := [w32 (v41), w32 (v17), w32 (v26), w32 (v35), w32 (0), w32 (0), w32 (0), w32 (0)]) (V := w32 (v35)) s60_66 s59_66 B6_66 (nB rfl) rfl siz_22 rfl rfl (fun wd67 hX hz B6_67 => ?_))
 have E67 := E66.since hX (fun k e => e ▸ fr_b6)
 have B1_67 := B1_66.ext hX ne_b1_b6
 have B2_67 := B2_66.ext hX ne_b2_b6
 have B3_67 := B3_66.ext hX ne_b3_b6
 clear hX hz E66 B1_66 B2_66 B3_66 B6_66
 refine tail_nil ?_
 refine Rl [] [(52, Pr.ex (i64 ((3 : Nat) : Int))), (53, Pr.ex (i64 ((4 : Nat) : Int)))] 2 N66 D66 ?_ ?_
 refine Ac ?_ (Ac ?_ (Az _))
 exact Am s7_66 rfl fun _ => rfl
 exact Ap fun aq wq _ hO hR hT => does_add (a := ((3 : Nat) : Int)) (b := ((1 : Nat) : Int)) (r := ((4 : Nat) : Int)) (hT 52 rfl rfl) rfl (by decide) (by decide) (by decide) eR
 intro a68 wd68 N68 D68 hO hR hA hU
 obtain ⟨_, t53, _⟩ := hA
 have E68 := E67.trans hR
 have s1_68 := oT hO s1_66 rfl
 have s2_68 := oT hO s2_66 rfl
 have s3_68 := oT hO s3_66 rfl
 have s4_68 := oT hO s4_66 rfl
 have s6_68 := oT hO s6_66 rfl
 have s7_68 := oT hO s7_66 rfl
 have B1_68 := B1_67.ext' hR
 have B2_68 := B2_67.ext' hR
 have B3_68 := B3_67.ext' hR
 have B6_68 := B6_67.ext' hR
 have s53_68 : get a68 53 = i64 ((4 : Nat) : Int) := t53
 clear E67 N66 D66 s1_66 s2_66 s3_66 s4_66 s6_66 s7_66 s59_66 s60_66 B1_67 B2_67 B3_67 B6_67
 refine tail_put rfl rfl N68 D68 (by decide) (does_assign (V := i64 ((4 : Nat) : Int)) s53_68 (fun a69 N69 D69 hv hO => ?_))
 have s7_69 := hv
 have s1_69 := oT hO s1_68 rfl
 have s2_69 := oT hO s2_68 rfl
 have s3_69 := oT hO s3_68 rfl
 have s4_69 := oT hO s4_68 rfl
 have s6_69 := oT hO s6_68 rfl
 clear hO hv N68 D68 s1_68 s2_68 s3_68 s4_68 s6_68 s53_68 s7_68
 refine tail_nil ?_
 refine round_step ?_
 refine wp_seq ?_
 refine wp_seq ?_
 refine Rl [] [(50, Pr.ex (i64 ((4 : Nat) : Int))), (51, Pr.ex (Value.bool (true)))] 2 N69 D69 ?_ ?_
 refine Ac ?_ (Ac ?_ (Az _))
 exact Am s7_69 rfl fun _ => rfl
 exact Ap fun aq wq _ hO hR hT => does_lss (a := ((4 : Nat) : Int)) (b := ((8 : Nat) : Int)) (hT 50 rfl rfl) rfl eR
 intro a70 wd70 N70 D70 hO hR hA hU
 obtain ⟨_, t51, _⟩ := hA
 have E70 := E68.trans hR
 have s1_70 := oT hO s1_69 rfl
 have s2_70 := oT hO s2_69 rfl
 have s3_70 := oT hO s3_69 rfl
 have s4_70 := oT hO s4_69 rfl
 have s6_70 := oT hO s6_69 rfl
 have s7_70 := oT hO s7_69 rfl
 have B1_70 := B1_68.ext' hR
 have B2_70 := B2_68.ext' hR
 have B3_70 := B3_68.ext' hR
 have B6_70 := B6_68.ext' hR
 have s51_70 : get a70 51 = Value.bool (true) := t51
 clear E68 N69 D69 s1_69 s2_69 s3_69 s4_69 s6_69 s7_69 B1_68 B2_68 B3_68 B6_68
 refine tail_nil ?_
 refine wp_ifT s51_70 ?_
 refine wp_skip ?_
 refine wp_seq ?_
 refine wp_block ?_
 refine Rl [] [(54, Pr.ex (i64 ((4 : Nat) : Int))), (55, Pr.ex (i64 ((4 : Nat) : Int))), (56, Pr.ex (i64 ((7 : Nat) : Int))), (57, Pr.ex (i64 ((7 : Nat) : Int))), (58, Pr.ex (Value.pointer (some ⟨b1, 7, none⟩))), (59, Pr.ex (w32 (v44))), (60, Pr.ex (Value.pointer (some ⟨b6, 4, none⟩)))] 7 N70 D70 ?_ ?_
 refine Ac ?_ (Ac ?_ (Ac ?_ (Ac ?_ (Ac ?_ (Ac ?_ (Ac ?_ (Az _)))))))
 exact Am s7_70 rfl fun _ => rfl
 exact Am s7_70 rfl fun _ => rfl
 exact Ap fun aq wq _ hO hR hT => does_add (a := ((4 : Nat) : Int)) (b := ((3 : Nat) : Int)) (r := ((7 : Nat) : Int)) (hT 55 rfl rfl) rfl (by decide) (by decide) (by decide) eR
 exact Ap fun aq wq _ hO hR hT => does_rem (k := .i64) (a := ((7 : Nat) : Int)) (b := ((8 : Nat) : Int)) (r := ((7 : Nat) : Int)) (hT 56 rfl rfl) rfl (by decide) (by decide) (by decide) eR
 exact Ap fun aq wq _ hO hR hT => does_indexArr (k := .i64) (i := 7) (o' := 7) arr_75 (oT hO s1_70 rfl) (hT 57 rfl rfl) (by decide) (by decide) rfl eR
 exact Ap fun aq wq _ hO hR hT => does_loadD1 (o := 7) (V := w32 (v44)) (hT 58 rfl rfl) (B1_70.ext' hR) rfl one_22 eR
 exact Ap fun aq wq _ hO hR hT => does_indexArr (k := .i64) (i := 4) (o' := 4) arr_75 (oT hO s6_70 rfl) (hT 54 rfl rfl) (by decide) (by decide) rfl eR
 intro a71 wd71 N71 D71 hO hR hA hU
 obtain ⟨_, _, _, _, _, t59, t60, _⟩ := hA
 have E71 := E70.trans hR
 have s1_71 := oT hO s1_70 rfl
 have s2_71 := oT hO s2_70 rfl
 have s3_71 := oT hO s3_70 rfl
 have s4_71 := oT hO s4_70 rfl
 have s6_71 := oT hO s6_70 rfl
 have s7_71 := oT hO s7_70 rfl
 have B1_71 := B1_70.ext' hR
 have B2_71 := B2_70.ext' hR
 have B3_71 := B3_70.ext' hR
 have B6_71 := B6_70.ext' hR
 have s59_71 : get a71 59 = w32 (v44) := t59
 have s60_71 : get a71 60 = Value.pointer (some ⟨b6, 4, none⟩) := t60
 clear E70 N70 D70 s1_70 s2_70 s3_70 s4_70 s6_70 s7_70 s51_70 B1_70 B2_70 B3_70 B6_70
 refine tail_none rfl rfl (does_storeD (o := 4) (n := 1) (cs' := [w32 (v41), w32 (v17), w32 (v26), w32 (v35), w32 (v44), w32 (0), w32 (0), w32 (0)]) (V := w32 (v44)) s60_71 s59_71 B6_71 (nB rfl) rfl siz_22 rfl rfl (fun wd72 hX hz B6_72 => ?_))
 have E72 := E71.since hX (fun k e => e ▸ fr_b6)
 have B1_72 := B1_71.ext hX ne_b1_b6
 have B2_72 := B2_71.ext hX ne_b2_b6
 have B3_72 := B3_71.ext hX ne_b3_b6
 clear hX hz E71 B1_71 B2_71 B3_71 B6_71
 refine tail_nil ?_
 refine Rl [] [(52, Pr.ex (i64 ((4 : Nat) : Int))), (53, Pr.ex (i64 ((5 : Nat) : Int)))] 2 N71 D71 ?_ ?_
 refine Ac ?_ (Ac ?_ (Az _))
 exact Am s7_71 rfl fun _ => rfl
 exact Ap fun aq wq _ hO hR hT => does_add (a := ((4 : Nat) : Int)) (b := ((1 : Nat) : Int)) (r := ((5 : Nat) : Int)) (hT 52 rfl rfl) rfl (by decide) (by decide) (by decide) eR
 intro a73 wd73 N73 D73 hO hR hA hU
 obtain ⟨_, t53, _⟩ := hA
 have E73 := E72.trans hR
 have s1_73 := oT hO s1_71 rfl
 have s2_73 := oT hO s2_71 rfl
 have s3_73 := oT hO s3_71 rfl
 have s4_73 := oT hO s4_71 rfl
 have s6_73 := oT hO s6_71 rfl
 have s7_73 := oT hO s7_71 rfl
 have B1_73 := B1_72.ext' hR
 have B2_73 := B2_72.ext' hR
 have B3_73 := B3_72.ext' hR
 have B6_73 := B6_72.ext' hR
 have s53_73 : get a73 53 = i64 ((5 : Nat) : Int) := t53
 clear E72 N71 D71 s1_71 s2_71 s3_71 s4_71 s6_71 s7_71 s59_71 s60_71 B1_72 B2_72 B3_72 B6_72
 refine tail_put rfl rfl N73 D73 (by decide) (does_assign (V := i64 ((5 : Nat) : Int)) s53_73 (fun a74 N74 D74 hv hO => ?_))
 have s7_74 := hv
 have s1_74 := oT hO s1_73 rfl
 have s2_74 := oT hO s2_73 rfl
 have s3_74 := oT hO s3_73 rfl
 have s4_74 := oT hO s4_73 rfl
 have s6_74 := oT hO s6_73 rfl
 clear hO hv N73 D73 s1_73 s2_73 s3_73 s4_73 s6_73 s53_73 s7_73
 refine tail_nil ?_
 refine round_step ?_
 refine wp_seq ?_
 refine wp_seq ?_
 refine Rl [] [(50, Pr.ex (i64 ((5 : Nat) : Int))), (51, Pr.ex (Value.bool (true)))] 2 N74 D74 ?_ ?_
 refine Ac ?_ (Ac ?_ (Az _))
 exact Am s7_74 rfl fun _ => rfl
 exact Ap fun aq wq _ hO hR hT => does_lss (a := ((5 : Nat) : Int)) (b := ((8 : Nat) : Int)) (hT 50 rfl rfl) rfl eR
 intro a75 wd75 N75 D75 hO hR hA hU
 obtain ⟨_, t51, _⟩ := hA
 have E75 := E73.trans hR
 have s1_75 := oT hO s1_74 rfl
 have s2_75 := oT hO s2_74 rfl
 have s3_75 := oT hO s3_74 rfl
 have s4_75 := oT hO s4_74 rfl
 have s6_75 := oT hO s6_74 rfl
 have s7_75 := oT hO s7_74 rfl
 have B1_75 := B1_73.ext' hR
 have B2_75 := B2_73.ext' hR
 have B3_75 := B3_73.ext' hR
 have B6_75 := B6_73.ext' hR
 have s51_75 : get a75 51 = Value.bool (true) := t51
 clear E73 N74 D74 s1_74 s2_74 s3_74 s4_74 s6_74 s7_74 B1_73 B2_73 B3_73 B6_73
 refine tail_nil ?_
 refine wp_ifT s51_75 ?_
 refine wp_skip ?_
 refine wp_seq ?_
 refine wp_block ?_
 refine Rl [] [(54, Pr.ex (i64 ((5 : Nat) : Int))), (55, Pr.ex (i64 ((5 : Nat) : Int))), (56, Pr.ex (i64 ((8 : Nat) : Int))), (57, Pr.ex (i64 ((0 : Nat) : Int))), (58, Pr.ex (Value.pointer (some ⟨b1, 0, none⟩))), (59, Pr.ex (w32 (v14))), (60, Pr.ex (Value.pointer (some ⟨b6, 5, none⟩)))] 7 N75 D75 ?_ ?_
 refine Ac ?_ (Ac ?_ (Ac ?_ (Ac ?_ (Ac ?_ (Ac ?_ (Ac ?_ (Az _)))))))
 exact Am s7_75 rfl fun _ => rfl
 exact Am s7_75 rfl fun _ => rfl
 exact Ap fun aq wq _ hO hR hT => does_add (a := ((5 : Nat) : Int)) (b := ((3 : Nat) : Int)) (r := ((8 : Nat) : Int)) (hT 55 rfl rfl) rfl (by decide) (by decide) (by decide) eR
 exact Ap fun aq wq _ hO hR hT => does_rem (k := .i64) (a := ((8 : Nat) : Int)) (b := ((8 : Nat) : Int)) (r := ((0 : Nat) : Int)) (hT 56 rfl rfl) rfl (by decide) (by decide) (by decide) eR
 exact Ap fun aq wq _ hO hR hT => does_indexArr (k := .i64) (i := 0) (o' := 0) arr_75 (oT hO s1_75 rfl) (hT 57 rfl rfl) (by decide) (by decide) rfl eR
 exact Ap fun aq wq _ hO hR hT => does_loadD1 (o := 0) (V := w32 (v14)) (hT 58 rfl rfl) (B1_75.ext' hR) rfl one_22 eR
 exact Ap fun aq wq _ hO hR hT => does_indexArr (k := .i64) (i := 5) (o' := 5) arr_75 (oT hO s6_75 rfl) (hT 54 rfl rfl) (by decide) (by decide) rfl eR
 intro a76 wd76 N76 D76 hO hR hA hU
 obtain ⟨_, _, _, _, _, t59, t60, _⟩ := hA
 have E76 := E75.trans hR
 have s1_76 := oT hO s1_75 rfl
 have s2_76 := oT hO s2_75 rfl
 have s3_76 := oT hO s3_75 rfl
 have s4_76 := oT hO s4_75 rfl
 have s6_76 := oT hO s6_75 rfl
 have s7_76 := oT hO s7_75 rfl
 have B1_76 := B1_75.ext' hR
 have B2_76 := B2_75.ext' hR
 have B3_76 := B3_75.ext' hR
 have B6_76 := B6_75.ext' hR
 have s59_76 : get a76 59 = w32 (v14) := t59
 have s60_76 : get a76 60 = Value.pointer (some ⟨b6, 5, none⟩) := t60
 clear E75 N75 D75 s1_75 s2_75 s3_75 s4_75 s6_75 s7_75 s51_75 B1_75 B2_75 B3_75 B6_75
 refine tail_none rfl rfl (does_storeD (o := 5) (n := 1) (cs' := [w32 (v41), w32 (v17), w32 (v26), w32 (v35), w32 (v44), w32 (v14), w32 (0), w32 (0)]) (V := w32 (v14)) s60_76 s59_76 B6_76 (nB rfl) rfl siz_22 rfl rfl (fun wd77 hX hz B6_77 => ?_))
 have E77 := E76.since hX (fun k e => e ▸ fr_b6)
 have B1_77 := B1_76.ext hX ne_b1_b6
 have B2_77 := B2_76.ext hX ne_b2_b6
 have B3_77 := B3_76.ext hX ne_b3_b6
 clear hX hz E76 B1_76 B2_76 B3_76 B6_76
 refine tail_nil ?_
 refine Rl [] [(52, Pr.ex (i64 ((5 : Nat) : Int))), (53, Pr.ex (i64 ((6 : Nat) : Int)))] 2 N76 D76 ?_ ?_
 refine Ac ?_ (Ac ?_ (Az _))
 exact Am s7_76 rfl fun _ => rfl
 exact Ap fun aq wq _ hO hR hT => does_add (a := ((5 : Nat) : Int)) (b := ((1 : Nat) : Int)) (r := ((6 : Nat) : Int)) (hT 52 rfl rfl) rfl (by decide) (by decide) (by decide) eR
 intro a78 wd78 N78 D78 hO hR hA hU
 obtain ⟨_, t53, _⟩ := hA
 have E78 := E77.trans hR
 have s1_78 := oT hO s1_76 rfl
 have s2_78 := oT hO s2_76 rfl
 have s3_78 := oT hO s3_76 rfl
 have s4_78 := oT hO s4_76 rfl
 have s6_78 := oT hO s6_76 rfl
 have s7_78 := oT hO s7_76 rfl
 have B1_78 := B1_77.ext' hR
 have B2_78 := B2_77.ext' hR
 have B3_78 := B3_77.ext' hR
 have B6_78 := B6_77.ext' hR
 have s53_78 : get a78 53 = i64 ((6 : Nat) : Int) := t53
 clear E77 N76 D76 s1_76 s2_76 s3_76 s4_76 s6_76 s7_76 s59_76 s60_76 B1_77 B2_77 B3_77 B6_77
 refine tail_put rfl rfl N78 D78 (by decide) (does_assign (V := i64 ((6 : Nat) : Int)) s53_78 (fun a79 N79 D79 hv hO => ?_))
 have s7_79 := hv
 have s1_79 := oT hO s1_78 rfl
 have s2_79 := oT hO s2_78 rfl
 have s3_79 := oT hO s3_78 rfl
 have s4_79 := oT hO s4_78 rfl
 have s6_79 := oT hO s6_78 rfl
 clear hO hv N78 D78 s1_78 s2_78 s3_78 s4_78 s6_78 s53_78 s7_78
 refine tail_nil ?_
 refine round_step ?_
 refine wp_seq ?_
 refine wp_seq ?_
 refine Rl [] [(50, Pr.ex (i64 ((6 : Nat) : Int))), (51, Pr.ex (Value.bool (true)))] 2 N79 D79 ?_ ?_
 refine Ac ?_ (Ac ?_ (Az _))
 exact Am s7_79 rfl fun _ => rfl
 exact Ap fun aq wq _ hO hR hT => does_lss (a := ((6 : Nat) : Int)) (b := ((8 : Nat) : Int)) (hT 50 rfl rfl) rfl eR
 intro a80 wd80 N80 D80 hO hR hA hU
 obtain ⟨_, t51, _⟩ := hA
 have E80 := E78.trans hR
 have s1_80 := oT hO s1_79 rfl
 have s2_80 := oT hO s2_79 rfl
 have s3_80 := oT hO s3_79 rfl
 have s4_80 := oT hO s4_79 rfl
 have s6_80 := oT hO s6_79 rfl
 have s7_80 := oT hO s7_79 rfl
 have B1_80 := B1_78.ext' hR
 have B2_80 := B2_78.ext' hR
 have B3_80 := B3_78.ext' hR
 have B6_80 := B6_78.ext' hR
 have s51_80 : get a80 51 = Value.bool (true) := t51
 clear E78 N79 D79 s1_79 s2_79 s3_79 s4_79 s6_79 s7_79 B1_78 B2_78 B3_78 B6_78
 refine tail_nil ?_
 refine wp_ifT s51_80 ?_
 refine wp_skip ?_
 refine wp_seq ?_
 refine wp_block ?_
 refine Rl [] [(54, Pr.ex (i64 ((6 : Nat) : Int))), (55, Pr.ex (i64 ((6 : Nat) : Int))), (56, Pr.ex (i64 ((9 : Nat) : Int))), (57, Pr.ex (i64 ((1 : Nat) : Int))), (58, Pr.ex (Value.pointer (some ⟨b1, 1, none⟩))), (59, Pr.ex (w32 (v23))), (60, Pr.ex (Value.pointer (some ⟨b6, 6, none⟩)))] 7 N80 D80 ?_ ?_
 refine Ac ?_ (Ac ?_ (Ac ?_ (Ac ?_ (Ac ?_ (Ac ?_ (Ac ?_ (Az _)))))))
 exact Am s7_80 rfl fun _ => rfl
 exact Am s7_80 rfl fun _ => rfl
 exact Ap fun aq wq _ hO hR hT => does_add (a := ((6 : Nat) : Int)) (b := ((3 : Nat) : Int)) (r := ((9 : Nat) : Int)) (hT 55 rfl rfl) rfl (by decide) (by decide) (by decide) eR
 exact Ap fun aq wq _ hO hR hT => does_rem (k := .i64) (a := ((9 : Nat) : Int)) (b := ((8 : Nat) : Int)) (r := ((1 : Nat) : Int)) (hT 56 rfl rfl) rfl (by decide) (by decide) (by decide) eR
 exact Ap fun aq wq _ hO hR hT => does_indexArr (k := .i64) (i := 1) (o' := 1) arr_75 (oT hO s1_80 rfl) (hT 57 rfl rfl) (by decide) (by decide) rfl eR
 exact Ap fun aq wq _ hO hR hT => does_loadD1 (o := 1) (V := w32 (v23)) (hT 58 rfl rfl) (B1_80.ext' hR) rfl one_22 eR
 exact Ap fun aq wq _ hO hR hT => does_indexArr (k := .i64) (i := 6) (o' := 6) arr_75 (oT hO s6_80 rfl) (hT 54 rfl rfl) (by decide) (by decide) rfl eR
 intro a81 wd81 N81 D81 hO hR hA hU
 obtain ⟨_, _, _, _, _, t59, t60, _⟩ := hA
 have E81 := E80.trans hR
 have s1_81 := oT hO s1_80 rfl
 have s2_81 := oT hO s2_80 rfl
 have s3_81 := oT hO s3_80 rfl
 have s4_81 := oT hO s4_80 rfl
 have s6_81 := oT hO s6_80 rfl
 have s7_81 := oT hO s7_80 rfl
 have B1_81 := B1_80.ext' hR
 have B2_81 := B2_80.ext' hR
 have B3_81 := B3_80.ext' hR
 have B6_81 := B6_80.ext' hR
 have s59_81 : get a81 59 = w32 (v23) := t59
 have s60_81 : get a81 60 = Value.pointer (some ⟨b6, 6, none⟩) := t60
 clear E80 N80 D80 s1_80 s2_80 s3_80 s4_80 s6_80 s7_80 s51_80 B1_80 B2_80 B3_80 B6_80
 refine tail_none rfl rfl (does_storeD (o := 6) (n := 1) (cs' := [w32 (v41), w32 (v17), w32 (v26), w32 (v35), w32 (v44), w32 (v14), w32 (v23), w32 (0)]) (V := w32 (v23)) s60_81 s59_81 B6_81 (nB rfl) rfl siz_22 rfl rfl (fun wd82 hX hz B6_82 => ?_))
 have E82 := E81.since hX (fun k e => e ▸ fr_b6)
 have B1_82 := B1_81.ext hX ne_b1_b6
 have B2_82 := B2_81.ext hX ne_b2_b6
 have B3_82 := B3_81.ext hX ne_b3_b6
 clear hX hz E81 B1_81 B2_81 B3_81 B6_81
 refine tail_nil ?_
 refine Rl [] [(52, Pr.ex (i64 ((6 : Nat) : Int))), (53, Pr.ex (i64 ((7 : Nat) : Int)))] 2 N81 D81 ?_ ?_
 refine Ac ?_ (Ac ?_ (Az _))
 exact Am s7_81 rfl fun _ => rfl
 exact Ap fun aq wq _ hO hR hT => does_add (a := ((6 : Nat) : Int)) (b := ((1 : Nat) : Int)) (r := ((7 : Nat) : Int)) (hT 52 rfl rfl) rfl (by decide) (by decide) (by decide) eR
 intro a83 wd83 N83 D83 hO hR hA hU
 obtain ⟨_, t53, _⟩ := hA
 have E83 := E82.trans hR
 have s1_83 := oT hO s1_81 rfl
 have s2_83 := oT hO s2_81 rfl
 have s3_83 := oT hO s3_81 rfl
 have s4_83 := oT hO s4_81 rfl
 have s6_83 := oT hO s6_81 rfl
 have s7_83 := oT hO s7_81 rfl
 have B1_83 := B1_82.ext' hR
 have B2_83 := B2_82.ext' hR
 have B3_83 := B3_82.ext' hR
 have B6_83 := B6_82.ext' hR
 have s53_83 : get a83 53 = i64 ((7 : Nat) : Int) := t53
 clear E82 N81 D81 s1_81 s2_81 s3_81 s4_81 s6_81 s7_81 s59_81 s60_81 B1_82 B2_82 B3_82 B6_82
 refine tail_put rfl rfl N83 D83 (by decide) (does_assign (V := i64 ((7 : Nat) : Int)) s53_83 (fun a84 N84 D84 hv hO => ?_))
 have s7_84 := hv
 have s1_84 := oT hO s1_83 rfl
 have s2_84 := oT hO s2_83 rfl
 have s3_84 := oT hO s3_83 rfl
 have s4_84 := oT hO s4_83 rfl
 have s6_84 := oT hO s6_83 rfl
 clear hO hv N83 D83 s1_83 s2_83 s3_83 s4_83 s6_83 s53_83 s7_83
 refine tail_nil ?_
 refine round_step ?_
 refine wp_seq ?_
 refine wp_seq ?_
 refine Rl [] [(50, Pr.ex (i64 ((7 : Nat) : Int))), (51, Pr.ex (Value.bool (true)))] 2 N84 D84 ?_ ?_
 refine Ac ?_ (Ac ?_ (Az _))
 exact Am s7_84 rfl fun _ => rfl
 exact Ap fun aq wq _ hO hR hT => does_lss (a := ((7 : Nat) : Int)) (b := ((8 : Nat) : Int)) (hT 50 rfl rfl) rfl eR
 intro a85 wd85 N85 D85 hO hR hA hU
 obtain ⟨_, t51, _⟩ := hA
 have E85 := E83.trans hR
 have s1_85 := oT hO s1_84 rfl
 have s2_85 := oT hO s2_84 rfl
 have s3_85 := oT hO s3_84 rfl
 have s4_85 := oT hO s4_84 rfl
 have s6_85 := oT hO s6_84 rfl
 have s7_85 := oT hO s7_84 rfl
 have B1_85 := B1_83.ext' hR
 have B2_85 := B2_83.ext' hR
 have B3_85 := B3_83.ext' hR
 have B6_85 := B6_83.ext' hR
 have s51_85 : get a85 51 = Value.bool (true) := t51
 clear E83 N84 D84 s1_84 s2_84 s3_84 s4_84 s6_84 s7_84 B1_83 B2_83 B3_83 B6_83
 refine tail_nil ?_
 refine wp_ifT s51_85 ?_
 refine wp_skip ?_
 refine wp_seq ?_
 refine wp_block ?_
 refine Rl [] [(54, Pr.ex (i64 ((7 : Nat) : Int))), (55, Pr.ex (i64 ((7 : Nat) : Int))), (56, Pr.ex (i64 ((10 : Nat) : Int))), (57, Pr.ex (i64 ((2 : Nat) : Int))), (58, Pr.ex (Value.pointer (some ⟨b1, 2, none⟩))), (59, Pr.ex (w32 (v32))), (60, Pr.ex (Value.pointer (some ⟨b6, 7, none⟩)))] 7 N85 D85 ?_ ?_
 refine Ac ?_ (Ac ?_ (Ac ?_ (Ac ?_ (Ac ?_ (Ac ?_ (Ac ?_ (Az _)))))))
 exact Am s7_85 rfl fun _ => rfl
 exact Am s7_85 rfl fun _ => rfl
 exact Ap fun aq wq _ hO hR hT => does_add (a := ((7 : Nat) : Int)) (b := ((3 : Nat) : Int)) (r := ((10 : Nat) : Int)) (hT 55 rfl rfl) rfl (by decide) (by decide) (by decide) eR
 exact Ap fun aq wq _ hO hR hT => does_rem (k := .i64) (a := ((10 : Nat) : Int)) (b := ((8 : Nat) : Int)) (r := ((2 : Nat) : Int)) (hT 56 rfl rfl) rfl (by decide) (by decide) (by decide) eR
 exact Ap fun aq wq _ hO hR hT => does_indexArr (k := .i64) (i := 2) (o' := 2) arr_75 (oT hO s1_85 rfl) (hT 57 rfl rfl) (by decide) (by decide) rfl eR
 exact Ap fun aq wq _ hO hR hT => does_loadD1 (o := 2) (V := w32 (v32)) (hT 58 rfl rfl) (B1_85.ext' hR) rfl one_22 eR
 exact Ap fun aq wq _ hO hR hT => does_indexArr (k := .i64) (i := 7) (o' := 7) arr_75 (oT hO s6_85 rfl) (hT 54 rfl rfl) (by decide) (by decide) rfl eR
 intro a86 wd86 N86 D86 hO hR hA hU
 obtain ⟨_, _, _, _, _, t59, t60, _⟩ := hA
 have E86 := E85.trans hR
 have s1_86 := oT hO s1_85 rfl
 have s2_86 := oT hO s2_85 rfl
 have s3_86 := oT hO s3_85 rfl
 have s4_86 := oT hO s4_85 rfl
 have s6_86 := oT hO s6_85 rfl
 have s7_86 := oT hO s7_85 rfl
 have B1_86 := B1_85.ext' hR
 have B2_86 := B2_85.ext' hR
 have B3_86 := B3_85.ext' hR
 have B6_86 := B6_85.ext' hR
 have s59_86 : get a86 59 = w32 (v32) := t59
 have s60_86 : get a86 60 = Value.pointer (some ⟨b6, 7, none⟩) := t60
 clear E85 N85 D85 s1_85 s2_85 s3_85 s4_85 s6_85 s7_85 s51_85 B1_85 B2_85 B3_85 B6_85
 refine tail_none rfl rfl (does_storeD (o := 7) (n := 1) (cs' := [w32 (v41), w32 (v17), w32 (v26), w32 (v35), w32 (v44), w32 (v14), w32 (v23), w32 (v32)]) (V := w32 (v32)) s60_86 s59_86 B6_86 (nB rfl) rfl siz_22 rfl rfl (fun wd87 hX hz B6_87 => ?_))
 have E87 := E86.since hX (fun k e => e ▸ fr_b6)
 have B1_87 := B1_86.ext hX ne_b1_b6
 have B2_87 := B2_86.ext hX ne_b2_b6
 have B3_87 := B3_86.ext hX ne_b3_b6
 clear hX hz E86 B1_86 B2_86 B3_86 B6_86
 refine tail_nil ?_
 refine Rl [] [(52, Pr.ex (i64 ((7 : Nat) : Int))), (53, Pr.ex (i64 ((8 : Nat) : Int)))] 2 N86 D86 ?_ ?_
 refine Ac ?_ (Ac ?_ (Az _))
 exact Am s7_86 rfl fun _ => rfl
 exact Ap fun aq wq _ hO hR hT => does_add (a := ((7 : Nat) : Int)) (b := ((1 : Nat) : Int)) (r := ((8 : Nat) : Int)) (hT 52 rfl rfl) rfl (by decide) (by decide) (by decide) eR
 intro a88 wd88 N88 D88 hO hR hA hU
 obtain ⟨_, t53, _⟩ := hA
 have E88 := E87.trans hR
 have s1_88 := oT hO s1_86 rfl
 have s2_88 := oT hO s2_86 rfl
 have s3_88 := oT hO s3_86 rfl
 have s4_88 := oT hO s4_86 rfl
 have s6_88 := oT hO s6_86 rfl
 have s7_88 := oT hO s7_86 rfl
 have B1_88 := B1_87.ext' hR
 have B2_88 := B2_87.ext' hR
 have B3_88 := B3_87.ext' hR
 have B6_88 := B6_87.ext' hR
 have s53_88 : get a88 53 = i64 ((8 : Nat) : Int) := t53
 clear E87 N86 D86 s1_86 s2_86 s3_86 s4_86 s6_86 s7_86 s59_86 s60_86 B1_87 B2_87 B3_87 B6_87
 refine tail_put rfl rfl N88 D88 (by decide) (does_assign (V := i64 ((8 : Nat) : Int)) s53_88 (fun a89 N89 D89 hv hO => ?_))
 have s7_89 := hv
 have s1_89 := oT hO s1_88 rfl
 have s2_89 := oT hO s2_88 rfl
 have s3_89 := oT hO s3_88 rfl
 have s4_89 := oT hO s4_88 rfl
 have s6_89 := oT hO s6_88 rfl
 clear hO hv N88 D88 s1_88 s2_88 s3_88 s4_88 s6_88 s53_88 s7_88
 refine tail_nil ?_
 refine round_step ?_
 refine wp_seq ?_
 refine wp_seq ?_
 refine Rl [] [(50, Pr.ex (i64 ((8 : Nat) : Int))), (51, Pr.ex (Value.bool (false)))] 2 N89 D89 ?_ ?_
 refine Ac ?_ (Ac ?_ (Az _))
 exact Am s7_89 rfl fun _ => rfl
 exact Ap fun aq wq _ hO hR hT => does_lss (a := ((8 : Nat) : Int)) (b := ((8 : Nat) : Int)) (hT 50 rfl rfl) rfl eR
 intro a90 wd90 N90 D90 hO hR hA hU
 obtain ⟨_, t51, _⟩ := hA
 have E90 := E88.trans hR
 have s1_90 := oT hO s1_89 rfl
 have s2_90 := oT hO s2_89 rfl
 have s3_90 := oT hO s3_89 rfl
 have s4_90 := oT hO s4_89 rfl
 have s6_90 := oT hO s6_89 rfl
 have s7_90 := oT hO s7_89 rfl
 have B1_90 := B1_88.ext' hR
 have B2_90 := B2_88.ext' hR
 have B3_90 := B3_88.ext' hR
 have B6_90 := B6_88.ext' hR
 have s51_90 : get a90 51 = Value.bool (false) := t51
 clear E88 N89 D89 s1_89 s2_89 s3_89 s4_89 s6_89 s7_89 B1_88 B2_88 B3_88 B6_88
 refine tail_nil ?_
 refine wp_ifF s51_90 ?_
 refine wp_exit ?_
 refine Rl [] [(61, Pr.ex (Value.agg #[w32 (v41), w32 (v17), w32 (v26), w32 (v35), w32 (v44), w32 (v14), w32 (v23), w32 (v32)]))] 1 N90 D90 ?_ ?_
 refine Ac ?_ (Az _)
 exact Ap fun aq wq _ hO hR hT => does_loadD (o := 0) (n := 8) (mid := [w32 (v41), w32 (v17), w32 (v26), w32 (v35), w32 (v44), w32 (v14), w32 (v23), w32 (v32)]) (oT hO s6_90 rfl) (B6_90.ext' hR) rfl rfl (nB rfl) row_75 rfl eR
 intro a91 wd91 N91 D91 hO hR hA hU
 obtain ⟨t61, _⟩ := hA
 have E91 := E90.trans hR
 have s1_91 := oT hO s1_90 rfl
 have s2_91 := oT hO s2_90 rfl
 have s3_91 := oT hO s3_90 rfl
 have s4_91 := oT hO s4_90 rfl
 have B1_91 := B1_90.ext' hR
 have B2_91 := B2_90.ext' hR
 have B3_91 := B3_90.ext' hR
 have B6_91 := B6_90.ext' hR
 have s61_91 : get a91 61 = Value.agg #[w32 (v41), w32 (v17), w32 (v26), w32 (v35), w32 (v44), w32 (v14), w32 (v23), w32 (v32)] := t61
 clear E90 N90 D90 s1_90 s2_90 s3_90 s4_90 s6_90 s7_90 s51_90 B1_90 B2_90 B3_90 B6_90
 refine tail_none rfl rfl (does_storeD (o := 0) (n := 8) (cs' := [w32 (v41), w32 (v17), w32 (v26), w32 (v35), w32 (v44), w32 (v14), w32 (v23), w32 (v32)]) (V := Value.agg #[w32 (v41), w32 (v17), w32 (v26), w32 (v35), w32 (v44), w32 (v14), w32 (v23), w32 (v32)]) s1_91 s61_91 B1_91 (nB rfl) rfl siz_75 rfl rfl (fun wd92 hX hz B1_92 => ?_))
 have E92 := E91.since hX (fun k e => e ▸ fr_b1)
 have B2_92 := B2_91.ext hX ne_b1_b2.symm
 have B3_92 := B3_91.ext hX ne_b1_b3.symm
 have B6_92 := B6_91.ext hX ne_b1_b6.symm
 clear hX hz E91 B1_91 B2_91 B3_91 B6_91
 refine tail_nil ?_
 refine Rl [] [(11, Pr.ex (i64 (k : Int))), (12, Pr.ex (i64 ((k + 1 : Nat) : Int)))] 2 N91 D91 ?_ ?_
 refine Ac ?_ (Ac ?_ (Az _))
 exact Am s4_91 rfl fun _ => rfl
 exact Ap fun aq wq _ hO hR hT => does_add (a := (k : Int)) (b := ((1 : Nat) : Int)) (r := ((k + 1 : Nat) : Int)) (hT 11 rfl rfl) rfl (by omega) (by omega) (by omega) eR
 intro a93 wd93 N93 D93 hO hR hA hU
 obtain ⟨_, t12, _⟩ := hA
 have E93 := E92.trans hR
 have s1_93 := oT hO s1_91 rfl
 have s2_93 := oT hO s2_91 rfl
 have s3_93 := oT hO s3_91 rfl
 have s4_93 := oT hO s4_91 rfl
 have B1_93 := B1_92.ext' hR
 have B2_93 := B2_92.ext' hR
 have B3_93 := B3_92.ext' hR
 have B6_93 := B6_92.ext' hR
 have s12_93 : get a93 12 = i64 ((k + 1 : Nat) : Int) := t12
 clear E92 N91 D91 s1_91 s2_91 s3_91 s4_91 s61_91 B1_92 B2_92 B3_92 B6_92
 refine tail_put rfl rfl N93 D93 (by decide) (does_assign (V := i64 ((k + 1 : Nat) : Int)) s12_93 (fun a94 N94 D94 hv hO => ?_))
 have s4_94 := hv
 have s1_94 := oT hO s1_93 rfl
 have s2_94 := oT hO s2_93 rfl
 have s3_94 := oT hO s3_93 rfl
 clear hO hv N93 D93 s1_93 s2_93 s3_93 s12_93 s4_93
 refine tail_nil ?_
 subst hv44
 subst hv41
 subst hv35
 subst hv32
 subst hv26
 subst hv23
 subst hv17
 subst hv14
 subst hv9
 exact ⟨_, by omega, k + 1, rfl, N94, D94, s1_94, s2_94, s3_94, s4_94, E93, B1_93, B2_93, B3_93, by omega⟩
 have hc0 := of_decide_eq_false hc0
 refine wp_exit ?_
 refine wp_seq ?_
 refine Rl [] [(62, Pr.ex (Value.agg #[w32 ((s.rounds k).a), w32 ((s.rounds k).b), w32 ((s.rounds k).c), w32 ((s.rounds k).d), w32 ((s.rounds k).e), w32 ((s.rounds k).f), w32 ((s.rounds k).g), w32 ((s.rounds k).h)]))] 1 N6 D6 ?_ ?_
 refine Ac ?_ (Az _)
 exact Ap fun aq wq _ hO hR hT => does_loadD (o := 0) (n := 8) (mid := [w32 ((s.rounds k).a), w32 ((s.rounds k).b), w32 ((s.rounds k).c), w32 ((s.rounds k).d), w32 ((s.rounds k).e), w32 ((s.rounds k).f), w32 ((s.rounds k).g), w32 ((s.rounds k).h)]) (oT hO s1_6 rfl) (B1_6.ext' hR) rfl rfl (nB rfl) row_75 rfl eR
 intro a95 wd95 N95 D95 hO hR hA hU
 obtain ⟨t62, _⟩ := hA
 have E95 := E6.trans hR
 have s2_95 := oT hO s2_6 rfl
 have B1_95 := B1_6.ext' hR
 have B2_95 := B2_6.ext' hR
 have B3_95 := B3_6.ext' hR
 have s62_95 : get a95 62 = Value.agg #[w32 ((s.rounds k).a), w32 ((s.rounds k).b), w32 ((s.rounds k).c), w32 ((s.rounds k).d), w32 ((s.rounds k).e), w32 ((s.rounds k).f), w32 ((s.rounds k).g), w32 ((s.rounds k).h)] := t62
 clear E6 N6 D6 s1_6 s2_6 s3_6 s4_6 s10_6 B1_6 B2_6 B3_6
 refine tail_none rfl rfl (does_storeD (o := 0) (n := 8) (cs' := [w32 ((s.rounds k).a), w32 ((s.rounds k).b), w32 ((s.rounds k).c), w32 ((s.rounds k).d), w32 ((s.rounds k).e), w32 ((s.rounds k).f), w32 ((s.rounds k).g), w32 ((s.rounds k).h)]) (V := Value.agg #[w32 ((s.rounds k).a), w32 ((s.rounds k).b), w32 ((s.rounds k).c), w32 ((s.rounds k).d), w32 ((s.rounds k).e), w32 ((s.rounds k).f), w32 ((s.rounds k).g), w32 ((s.rounds k).h)]) s2_95 s62_95 B2_95 (nB rfl) rfl siz_75 rfl rfl (fun wd96 hX hz B2_96 => ?_))
 have E96 := E95.since hX (fun k e => e ▸ fr_b2)
 have B1_96 := B1_95.ext hX ne_b1_b2
 have B3_96 := B3_95.ext hX ne_b2_b3.symm
 clear hX hz E95 B1_95 B2_95 B3_95
 refine tail_nil ?_
 refine wp_ret ?_
 refine res_one (V := Value.agg #[w32 ((s.rounds k).a), w32 ((s.rounds k).b), w32 ((s.rounds k).c), w32 ((s.rounds k).d), w32 ((s.rounds k).e), w32 ((s.rounds k).f), w32 ((s.rounds k).g), w32 ((s.rounds k).h)]) rfl D95 (ResIs.cell s2_95 B2_96 row_75 rfl rfl) ?_
 have hk8 : k = 8 := by omega
 subst hk8
 exact ⟨rfl, E96⟩

end Go.Proofs.YtmmghpbncejfiaaDoor
