/- The walks of functions of the program: printed. -/
import Derived.Test.YtaeohnkfmachfabDoorKB
import Derived.Test.YtaeohnkfmachfabDoorG70
import Derived.Test.YtaeohnkfmachfabDoorG94
import Derived.Test.YtaeohnkfmachfabDoorG96
import Derived.Test.YtaeohnkfmachfabDoorG107
import Derived.Test.YtaeohnkfmachfabDoorF0
set_option maxRecDepth 100000
namespace Go.Proofs.YtaeohnkfmachfabDoor
open Go Go.RowKit Sk Sd
theorem call_7 : Callable Tryd.prog 7 := ⟨_, Tryd.func7, by kernel_rfl, rfl⟩
theorem call_10 : Callable Tryd.prog 10 := ⟨_, Tryd.func10, by kernel_rfl, rfl⟩
theorem call_11 : Callable Tryd.prog 11 := ⟨_, Tryd.func11, by kernel_rfl, rfl⟩
theorem eq_30 : EqIs Tryd.prog 30 Signer.val := eq_signer ⟨by kernel_rfl, by kernel_rfl, by kernel_rfl, by kernel_rfl⟩ Tryd.underlying3 dgis (by kernel_rfl)
theorem keysRow (seed : Dg) (high : Bool) (l : List Dg) (x1 : Value) (w0 : World) (hL : Laid w0) (hx1 : SlT DG 0 0 l x1 w0) :
    Gives Tryd.prog 5 #[Dg.val (seed), Value.bool (high), x1] w0 (Pr.ex (Value.bool true)) := by
 refine enter (N := 86) Tryd.func5 rfl rfl ?_
 intro a0 N0 D0 hA
 have s0_0 : get a0 0 = Dg.val (seed) := hA 0 _ rfl
 have s1_0 : get a0 1 = Value.bool (high) := hA 1 _ rfl
 have s2_0 : get a0 2 = x1 := hA 2 _ rfl
 clear hA
 have E0 : Ext w0 w0 := Ext.refl w0
 have X1_0 := hx1.close
 refine wp_seq ?_
 refine Rl [3] [(3, Pr.box' w0.heap.size 24 [w32 (seed).a, w32 (seed).b, w32 (seed).c, w32 (seed).d]), (6, Pr.ex (Value.bool (false)))] 2 N0 D0 ?_ ?_
 refine Ac ?_ (Ac ?_ (Az _))
 refine Ask.fresh rfl rfl ?_
 intro aq wq hNq hO hR hT
 exact does_box (V := Dg.val (seed)) (oT hO s0_0 rfl) (fun b w2 he hlo hb => ⟨he, ⟨b, rfl, Nat.le_trans hR.size' hlo, hb⟩, ⟨b, rfl, hlo, hb.lt⟩⟩)
 exact Ap fun aq wq _ hO hR hT => does_assign (V := Value.bool (false)) rfl eR
 intro a1 wd1 N1 D1 hO hR hA hU
 obtain ⟨t3, _, _⟩ := hA
 have E1 := E0.trans hR
 have s1_1 := oT hO s1_0 rfl
 have s2_1 := oT hO s2_0 rfl
 have X1_1 := X1_0.ext' hR
 obtain ⟨b3, s3_1, lo_b3, B3_1⟩ := t3
 have nb_x1_b3 := SlT.old X1_0 lo_b3
 have fr_b3 : w0.heap.size ≤ b3 := Nat.le_trans E0.size' lo_b3
 clear E0 N0 D0 s0_0 s1_0 s2_0 X1_0
 refine tail_nil ?_
 refine wp_seq ?_
 refine wp_seq ?_
 refine Rl [] [(17, Pr.ex (Value.bool (true))), (18, Pr.ex (Value.bool (false)))] 2 N1 D1 ?_ ?_
 refine Ac ?_ (Ac ?_ (Az _))
 exact Ap fun aq wq _ hO hR hT => does_ret (vs := #[]) call_7 args0 rfl ((awake06 wq (hL.ext (E1.trans hR))).mono fun v w2 h => ⟨h.2, h.1⟩)
 exact Ap fun aq wq _ hO hR hT => does_not (B := true) (hT 17 rfl rfl) eR
 intro a2 wd2 N2 D2 hO hR hA hU
 obtain ⟨_, t18, _⟩ := hA
 have E2 := E1.trans hR
 have s1_2 := oT hO s1_1 rfl
 have s2_2 := oT hO s2_1 rfl
 have s3_2 := oT hO s3_1 rfl
 have B3_2 := B3_1.ext' hR
 have X1_2 := X1_1.ext' hR
 have s18_2 : get a2 18 = Value.bool (false) := t18
 clear E1 N1 D1 s1_1 s2_1 s3_1 B3_1 X1_1
 refine tail_nil ?_
 refine wp_ifF s18_2 ?_
 refine wp_skip ?_
 refine wp_seq ?_
 refine wp_seq ?_
 refine Rl [] [(19, Pr.ex (x1)), (20, Pr.ex (i64 (l.length : Int))), (21, Pr.ex (Value.bool (decide (((4 : Nat) : Int) < (l.length : Int)))))] 3 N2 D2 ?_ ?_
 refine Ac ?_ (Ac ?_ (Ac ?_ (Az _)))
 exact Am s2_2 rfl fun _ => rfl
 exact Ap fun aq wq _ hO hR hT => does_len (T := DG) (xs := l) sli_34 (SlT.at (hT 19 rfl rfl) (X1_2.ext' hR)) eR
 exact Ap fun aq wq _ hO hR hT => does_gtr (a := (l.length : Int)) (b := ((4 : Nat) : Int)) (hT 20 rfl rfl) rfl eR
 intro a3 wd3 N3 D3 hO hR hA hU
 obtain ⟨_, _, t21, _⟩ := hA
 have E3 := E2.trans hR
 have s1_3 := oT hO s1_2 rfl
 have s2_3 := oT hO s2_2 rfl
 have s3_3 := oT hO s3_2 rfl
 have B3_3 := B3_2.ext' hR
 have X1_3 := X1_2.ext' hR
 have s21_3 : get a3 21 = Value.bool (decide (((4 : Nat) : Int) < (l.length : Int))) := t21
 clear E2 N2 D2 s1_2 s2_2 s3_2 s18_2 B3_2 X1_2
 refine tail_nil ?_
 refine wp_if (B := decide (((4 : Nat) : Int) < (l.length : Int))) s21_3 (fun hc0 => ?_) (fun hc0 => ?_)
 have hc0 := of_decide_eq_true hc0
 refine wp_seq ?_
 refine Rl [] [(6, Pr.ex (Value.bool (true)))] 1 N3 D3 ?_ ?_
 refine Ac ?_ (Az _)
 exact Ap fun aq wq _ hO hR hT => does_assign (V := Value.bool (true)) rfl eR
 intro a4 wd4 N4 D4 hO hR hA hU
 obtain ⟨t6, _⟩ := hA
 have E4 := E3.trans hR
 have B3_4 := B3_3.ext' hR
 have X1_4 := X1_3.ext' hR
 have s6_4 : get a4 6 = Value.bool (true) := t6
 clear E3 N3 D3 s1_3 s2_3 s3_3 s21_3 B3_3 X1_3
 refine tail_nil ?_
 refine wp_ret ?_
 refine res_one (V := Value.bool (true)) rfl D4 s6_4 ?_
 exact ⟨rfl, E4⟩
 have hc0 := of_decide_eq_false hc0
 refine wp_skip ?_
 refine wp_seq ?_
 refine Rl [] [(7, Pr.ex (i64 ((0 : Nat) : Int)))] 1 N3 D3 ?_ ?_
 refine Ac ?_ (Az _)
 exact Ap fun aq wq _ hO hR hT => does_assign (V := i64 ((0 : Nat) : Int)) rfl eR
 intro a5 wd5 N5 D5 hO hR hA hU
 obtain ⟨t7, _⟩ := hA
 have E5 := E3.trans hR
 have s1_5 := oT hO s1_3 rfl
 have s2_5 := oT hO s2_3 rfl
 have s3_5 := oT hO s3_3 rfl
 have B3_5 := B3_3.ext' hR
 have X1_5 := X1_3.ext' hR
 have s7_5 : get a5 7 = i64 ((0 : Nat) : Int) := t7
 clear E3 N3 D3 s1_3 s2_3 s3_3 s21_3 B3_3 X1_3
 refine tail_nil ?_
 refine wp_seq ?_
 refine Rl [] [(8, Pr.ex (i64 ((1 : Nat) : Int)))] 1 N5 D5 ?_ ?_
 refine Ac ?_ (Az _)
 exact Ap fun aq wq _ hO hR hT => does_assign (V := i64 ((1 : Nat) : Int)) rfl eR
 intro a6 wd6 N6 D6 hO hR hA hU
 obtain ⟨t8, _⟩ := hA
 have E6 := E5.trans hR
 have s1_6 := oT hO s1_5 rfl
 have s2_6 := oT hO s2_5 rfl
 have s3_6 := oT hO s3_5 rfl
 have s7_6 := oT hO s7_5 rfl
 have B3_6 := B3_5.ext' hR
 have X1_6 := X1_5.ext' hR
 have s8_6 : get a6 8 = i64 ((1 : Nat) : Int) := t8
 clear E5 N5 D5 s1_5 s2_5 s3_5 s7_5 B3_5 X1_5
 refine tail_nil ?_
 refine wp_seq ?_
 refine wp_seq ?_
 refine Rl [] [(22, Pr.ex (Value.bool (high)))] 1 N6 D6 ?_ ?_
 refine Ac ?_ (Az _)
 exact Am s1_6 rfl fun _ => rfl
 intro a7 wd7 N7 D7 hO hR hA hU
 obtain ⟨t22, _⟩ := hA
 have E7 := E6.trans hR
 have s2_7 := oT hO s2_6 rfl
 have s3_7 := oT hO s3_6 rfl
 have s7_7 := oT hO s7_6 rfl
 have s8_7 := oT hO s8_6 rfl
 have B3_7 := B3_6.ext' hR
 have X1_7 := X1_6.ext' hR
 have s22_7 : get a7 22 = Value.bool (high) := t22
 clear E6 N6 D6 s1_6 s2_6 s3_6 s7_6 s8_6 B3_6 X1_6
 refine tail_nil ?_
 refine wp_if (B := high) s22_7 (fun hc1 => ?_) (fun hc1 => ?_)
 refine wp_seq ?_
 refine Rl [] [(7, Pr.ex (i64 ((1 : Nat) : Int)))] 1 N7 D7 ?_ ?_
 refine Ac ?_ (Az _)
 exact Ap fun aq wq _ hO hR hT => does_assign (V := i64 ((1 : Nat) : Int)) rfl eR
 intro a8 wd8 N8 D8 hO hR hA hU
 obtain ⟨t7, _⟩ := hA
 have E8 := E7.trans hR
 have s2_8 := oT hO s2_7 rfl
 have s3_8 := oT hO s3_7 rfl
 have B3_8 := B3_7.ext' hR
 have X1_8 := X1_7.ext' hR
 have s7_8 : get a8 7 = i64 ((1 : Nat) : Int) := t7
 clear E7 N7 D7 s2_7 s3_7 s7_7 s8_7 s22_7 B3_7 X1_7
 refine tail_nil ?_
 refine Rl [] [(8, Pr.ex (i64 ((2 : Nat) : Int)))] 1 N8 D8 ?_ ?_
 refine Ac ?_ (Az _)
 exact Ap fun aq wq _ hO hR hT => does_assign (V := i64 ((2 : Nat) : Int)) rfl eR
 intro a9 wd9 N9 D9 hO hR hA hU
 obtain ⟨t8, _⟩ := hA
 have E9 := E8.trans hR
 have s2_9 := oT hO s2_8 rfl
 have s3_9 := oT hO s3_8 rfl
 have s7_9 := oT hO s7_8 rfl
 have B3_9 := B3_8.ext' hR
 have X1_9 := X1_8.ext' hR
 have s8_9 : get a9 8 = i64 ((2 : Nat) : Int) := t8
 clear E8 N8 D8 s2_8 s3_8 s7_8 B3_8 X1_8
 refine tail_nil ?_
 refine wp_seq ?_
 obtain ⟨n, hn1, hs7, hs8⟩ : ∃ n : Nat, n ≤ 1 ∧ get a9 7 = i64 (n : Int) ∧ get a9 8 = i64 ((pw n : Nat) : Int) := ⟨1, by decide, s7_9, s8_9⟩
 replace s7_9 := hs7
 replace s8_9 := hs8
 clear hs7 hs8
 have hn4 : n ≤ 4 := by omega
 have hp16 := pw_small hn4
 refine Rl [9] [(24, Pr.ex (Dg.val (seed))), (25, Pr.ex (i64 (n : Int))), (26, Pr.ex (Value.tuple #[Value.agg #[w32 (seed).a, w32 (seed).b, w32 (seed).c, w32 (seed).d, i64 (n : Int), i64 ((0 : Nat) : Int)], i64 ((0 : Nat) : Int)])), (23, Pr.ex (Value.tuple #[Value.agg #[w32 (seed).a, w32 (seed).b, w32 (seed).c, w32 (seed).d, i64 (n : Int), i64 ((0 : Nat) : Int)], i64 ((0 : Nat) : Int)])), (27, Pr.ex (Value.agg #[w32 (seed).a, w32 (seed).b, w32 (seed).c, w32 (seed).d, i64 (n : Int), i64 ((0 : Nat) : Int)])), (28, Pr.ex (i64 ((0 : Nat) : Int))), (9, Pr.box' wd9.heap.size 30 [w32 (Dg.zero).a, w32 (Dg.zero).b, w32 (Dg.zero).c, w32 (Dg.zero).d, i64 ((0 : Nat) : Int), i64 ((0 : Nat) : Int)])] 7 N9 D9 ?_ ?_
 refine Ac ?_ (Ac ?_ (Ac ?_ (Ac ?_ (Ac ?_ (Ac ?_ (Ac ?_ (Az _)))))))
 exact Ap fun aq wq _ hO hR hT => does_loadD (o := 0) (n := 4) (mid := [w32 (seed).a, w32 (seed).b, w32 (seed).c, w32 (seed).d]) (oT hO s3_9 rfl) (B3_9.ext' hR) rfl rfl (nB rfl) row_24 rfl eR
 exact Am s7_9 rfl fun _ => rfl
 exact Ap fun aq wq _ hO hR hT => does_ret (vs := #[Dg.val (seed), i64 (n : Int)]) call_10 (args2 (hT 24 rfl rfl) (hT 25 rfl rfl)) rfl ((keyNew_k seed n wq hn4).mono fun v w2 h => ⟨h.2, h.1⟩)
 exact Ap fun aq wq _ hO hR hT => does_move (V := Value.tuple #[Value.agg #[w32 (seed).a, w32 (seed).b, w32 (seed).c, w32 (seed).d, i64 (n : Int), i64 ((0 : Nat) : Int)], i64 ((0 : Nat) : Int)]) (hT 26 rfl rfl) eR
 exact Ap fun aq wq _ hO hR hT => does_extract (V := Value.agg #[w32 (seed).a, w32 (seed).b, w32 (seed).c, w32 (seed).d, i64 (n : Int), i64 ((0 : Nat) : Int)]) (hT 23 rfl rfl) rfl eR
 exact Ap fun aq wq _ hO hR hT => does_extract (V := i64 ((0 : Nat) : Int)) (hT 23 rfl rfl) rfl eR
 refine Ask.fresh rfl rfl ?_
 intro aq wq hNq hO hR hT
 exact does_alloc zero_30 (fun b w2 he hlo hb => ⟨he, ⟨b, rfl, Nat.le_trans hR.size' hlo, hb⟩, ⟨b, rfl, hlo, hb.lt⟩⟩)
 intro a10 wd10 N10 D10 hO hR hA hU
 obtain ⟨_, _, _, _, t27, t28, t9, _⟩ := hA
 have E10 := E9.trans hR
 have s2_10 := oT hO s2_9 rfl
 have s3_10 := oT hO s3_9 rfl
 have s7_10 := oT hO s7_9 rfl
 have s8_10 := oT hO s8_9 rfl
 have B3_10 := B3_9.ext' hR
 have X1_10 := X1_9.ext' hR
 have s27_10 : get a10 27 = Value.agg #[w32 (seed).a, w32 (seed).b, w32 (seed).c, w32 (seed).d, i64 (n : Int), i64 ((0 : Nat) : Int)] := t27
 have s28_10 : get a10 28 = i64 ((0 : Nat) : Int) := t28
 obtain ⟨b9, s9_10, lo_b9, B9_10⟩ := t9
 have ne_b3_b9 := Hl B3_9 lo_b9
 have nb_x1_b9 := SlT.old X1_9 lo_b9
 have fr_b9 : w0.heap.size ≤ b9 := Nat.le_trans E9.size' lo_b9
 clear E9 N9 D9 s2_9 s3_9 s7_9 s8_9 B3_9 X1_9
 refine tail_none rfl rfl (does_storeD (o := 0) (n := 6) (cs' := [w32 (seed).a, w32 (seed).b, w32 (seed).c, w32 (seed).d, i64 (n : Int), i64 ((0 : Nat) : Int)]) (V := Value.agg #[w32 (seed).a, w32 (seed).b, w32 (seed).c, w32 (seed).d, i64 (n : Int), i64 ((0 : Nat) : Int)]) s9_10 s27_10 B9_10 (nB rfl) rfl siz_30 rfl rfl (fun wd11 hX hz B9_11 => ?_))
 have E11 := E10.since hX (fun k e => e ▸ fr_b9)
 have B3_11 := B3_10.ext hX ne_b3_b9
 have X1_11 := SlT.over X1_10 hX nb_x1_b9
 clear hX hz E10 B3_10 B9_10 X1_10
 refine tail_put rfl rfl N10 D10 (by decide) (does_assign (V := i64 ((0 : Nat) : Int)) s28_10 (fun a12 N12 D12 hv hO => ?_))
 have s10_12 := hv
 have s2_12 := oT hO s2_10 rfl
 have s3_12 := oT hO s3_10 rfl
 have s7_12 := oT hO s7_10 rfl
 have s8_12 := oT hO s8_10 rfl
 have s9_12 := oT hO s9_10 rfl
 clear hO hv N10 D10 s2_10 s3_10 s7_10 s8_10 s9_10 s27_10 s28_10
 refine tail_nil ?_
 refine wp_seq ?_
 refine Rl [11] [(30, Pr.ex (Dg.val (seed))), (31, Pr.ex (i64 (n : Int))), (32, Pr.ex (Value.tuple #[Dg.val (root (publics seed (pw n))), i64 ((0 : Nat) : Int)])), (29, Pr.ex (Value.tuple #[Dg.val (root (publics seed (pw n))), i64 ((0 : Nat) : Int)])), (33, Pr.ex (Dg.val (root (publics seed (pw n))))), (34, Pr.ex (i64 ((0 : Nat) : Int))), (11, Pr.box' wd11.heap.size 24 [w32 (Dg.zero).a, w32 (Dg.zero).b, w32 (Dg.zero).c, w32 (Dg.zero).d])] 7 N12 D12 ?_ ?_
 refine Ac ?_ (Ac ?_ (Ac ?_ (Ac ?_ (Ac ?_ (Ac ?_ (Ac ?_ (Az _)))))))
 exact Ap fun aq wq _ hO hR hT => does_loadD (o := 0) (n := 4) (mid := [w32 (seed).a, w32 (seed).b, w32 (seed).c, w32 (seed).d]) (oT hO s3_12 rfl) (B3_11.ext' hR) rfl rfl (nB rfl) row_24 rfl eR
 exact Am s7_12 rfl fun _ => rfl
 exact Ap fun aq wq _ hO hR hT => does_ret (vs := #[Dg.val (seed), i64 (n : Int)]) call_8 (args2 (hT 30 rfl rfl) (hT 31 rfl rfl)) rfl ((keyPub_k seed n wq (hL.ext (E11.trans hR)) hn4).mono fun v w2 h => ⟨h.2, h.1⟩)
 exact Ap fun aq wq _ hO hR hT => does_move (V := Value.tuple #[Dg.val (root (publics seed (pw n))), i64 ((0 : Nat) : Int)]) (hT 32 rfl rfl) eR
 exact Ap fun aq wq _ hO hR hT => does_extract (V := Dg.val (root (publics seed (pw n)))) (hT 29 rfl rfl) rfl eR
 exact Ap fun aq wq _ hO hR hT => does_extract (V := i64 ((0 : Nat) : Int)) (hT 29 rfl rfl) rfl eR
 refine Ask.fresh rfl rfl ?_
 intro aq wq hNq hO hR hT
 exact does_alloc zero_24 (fun b w2 he hlo hb => ⟨he, ⟨b, rfl, Nat.le_trans hR.size' hlo, hb⟩, ⟨b, rfl, hlo, hb.lt⟩⟩)
 intro a13 wd13 N13 D13 hO hR hA hU
 obtain ⟨_, _, _, _, t33, t34, t11, _⟩ := hA
 have E13 := E11.trans hR
 have s2_13 := oT hO s2_12 rfl
 have s8_13 := oT hO s8_12 rfl
 have s9_13 := oT hO s9_12 rfl
 have s10_13 := oT hO s10_12 rfl
 have B3_13 := B3_11.ext' hR
 have B9_13 := B9_11.ext' hR
 have X1_13 := X1_11.ext' hR
 have s33_13 : get a13 33 = Dg.val (root (publics seed (pw n))) := t33
 have s34_13 : get a13 34 = i64 ((0 : Nat) : Int) := t34
 obtain ⟨b11, s11_13, lo_b11, B11_13⟩ := t11
 have ne_b3_b11 := Hl B3_11 lo_b11
 have ne_b9_b11 := Hl B9_11 lo_b11
 have nb_x1_b11 := SlT.old X1_11 lo_b11
 have fr_b11 : w0.heap.size ≤ b11 := Nat.le_trans E11.size' lo_b11
 clear E11 N12 D12 s2_12 s3_12 s7_12 s8_12 s9_12 s10_12 B3_11 B9_11 X1_11
 refine tail_none rfl rfl (does_storeD (o := 0) (n := 4) (cs' := [w32 (root (publics seed (pw n))).a, w32 (root (publics seed (pw n))).b, w32 (root (publics seed (pw n))).c, w32 (root (publics seed (pw n))).d]) (V := Dg.val (root (publics seed (pw n)))) s11_13 s33_13 B11_13 (nB rfl) rfl siz_24 rfl rfl (fun wd14 hX hz B11_14 => ?_))
 have E14 := E13.since hX (fun k e => e ▸ fr_b11)
 have B3_14 := B3_13.ext hX ne_b3_b11
 have B9_14 := B9_13.ext hX ne_b9_b11
 have X1_14 := SlT.over X1_13 hX nb_x1_b11
 clear hX hz E13 B3_13 B9_13 B11_13 X1_13
 refine tail_put rfl rfl N13 D13 (by decide) (does_assign (V := i64 ((0 : Nat) : Int)) s34_13 (fun a15 N15 D15 hv hO => ?_))
 have s12_15 := hv
 have s2_15 := oT hO s2_13 rfl
 have s8_15 := oT hO s8_13 rfl
 have s9_15 := oT hO s9_13 rfl
 have s10_15 := oT hO s10_13 rfl
 have s11_15 := oT hO s11_13 rfl
 clear hO hv N13 D13 s2_13 s8_13 s9_13 s10_13 s11_13 s33_13 s34_13
 refine tail_nil ?_
 refine wp_seq ?_
 refine wp_seq ?_
 refine Rl [] [(35, Pr.ex (i64 ((0 : Nat) : Int))), (36, Pr.ex (Value.bool (false))), (37, Pr.ex (Value.bool (false))), (38, Pr.ifb (!false) (Pr.ex (i64 ((0 : Nat) : Int)))), (39, Pr.ifb (!false) (Pr.ex (Value.bool (false)))), (40, Pr.ex (Value.bool (false || false)))] 6 N15 D15 ?_ ?_
 refine Ac ?_ (Ac ?_ (Ac ?_ (Ac ?_ (Ac ?_ (Ac ?_ (Az _))))))
 exact Am s10_15 rfl fun _ => rfl
 exact Ap fun aq wq _ hO hR hT => does_neq (a := ((0 : Nat) : Int)) (b := ((0 : Nat) : Int)) (hT 35 rfl rfl) rfl eR
 exact Ap fun aq wq _ hO hR hT => does_move (V := Value.bool (false)) (hT 36 rfl rfl) eR
 refine Ask.guarded (B := false) (want := false) (t := 37) rfl rfl rfl rfl (by decide) (fun aq wq hO hR hT => hT 37 rfl rfl) (fun hG aq wq hNq hO hR hT => ?_) (fun hno _ => fun hc => absurd (bn hc) hno)
 replace hG := nb hG
 exact does_move (V := i64 ((0 : Nat) : Int)) (oT hO s12_15 rfl) ⟨Ext.refl _, fun _ => rfl⟩
 refine Ask.guarded (B := false) (want := false) (t := 37) rfl rfl rfl rfl (by decide) (fun aq wq hO hR hT => hT 37 rfl rfl) (fun hG aq wq hNq hO hR hT => ?_) (fun hno _ => fun hc => absurd (bn hc) hno)
 replace hG := nb hG
 exact does_neq (a := ((0 : Nat) : Int)) (b := ((0 : Nat) : Int)) (hT 38 rfl rfl hG) rfl ⟨Ext.refl _, fun _ => rfl⟩
 exact Ap fun aq wq _ hO hR hT => does_or (B := false) (X := false) (hT 37 rfl rfl) rfl (fun hB => (hT 39 rfl rfl (nb hB))) eR
 intro a16 wd16 N16 D16 hO hR hA hU
 obtain ⟨_, _, _, _, _, t40, _⟩ := hA
 have E16 := E14.trans hR
 have s2_16 := oT hO s2_15 rfl
 have s8_16 := oT hO s8_15 rfl
 have s9_16 := oT hO s9_15 rfl
 have s11_16 := oT hO s11_15 rfl
 have B3_16 := B3_14.ext' hR
 have B9_16 := B9_14.ext' hR
 have B11_16 := B11_14.ext' hR
 have X1_16 := X1_14.ext' hR
 have s40_16 : get a16 40 = Value.bool (false || false) := t40
 clear E14 N15 D15 s2_15 s8_15 s9_15 s10_15 s11_15 s12_15 B3_14 B9_14 B11_14 X1_14
 refine tail_nil ?_
 refine wp_if (B := false || false) s40_16 (fun hc2 => ?_) (fun hc2 => ?_)
 simp at hc2
 refine wp_skip ?_
 refine wp_seq ?_
 refine wp_seq ?_
 refine Rl [] [(13, Pr.ex (i64 ((0 : Nat) : Int)))] 1 N16 D16 ?_ ?_
 refine Ac ?_ (Az _)
 exact Ap fun aq wq _ hO hR hT => does_assign (V := i64 ((0 : Nat) : Int)) rfl eR
 intro a17 wd17 N17 D17 hO hR hA hU
 obtain ⟨t13, _⟩ := hA
 have E17 := E16.trans hR
 have s2_17 := oT hO s2_16 rfl
 have s8_17 := oT hO s8_16 rfl
 have s9_17 := oT hO s9_16 rfl
 have s11_17 := oT hO s11_16 rfl
 have B3_17 := B3_16.ext' hR
 have B9_17 := B9_16.ext' hR
 have B11_17 := B11_16.ext' hR
 have X1_17 := X1_16.ext' hR
 have s13_17 : get a17 13 = i64 ((0 : Nat) : Int) := t13
 clear E16 N16 D16 s2_16 s8_16 s9_16 s11_16 s40_16 B3_16 B9_16 B11_16 X1_16
 refine tail_nil ?_
 refine wp_block ?_
 refine loop_g (fun mz az wz => ∃ k : Nat, ∃ m : Nat, mz = l.length - k ∧ (az.tmps.size = 86) ∧ (az.defers = []) ∧ (get az 2 = x1) ∧ (get az 8 = i64 ((pw n : Nat) : Int)) ∧ (get az 9 = Value.pointer (some ⟨b9, 0, none⟩)) ∧ (get az 11 = Value.pointer (some ⟨b11, 0, none⟩)) ∧ (get az 13 = i64 (k : Int)) ∧ (Ext w0 wz) ∧ (Has wz b3 24 [w32 (seed).a, w32 (seed).b, w32 (seed).c, w32 (seed).d]) ∧ (Has wz b9 30 [w32 (seed).a, w32 (seed).b, w32 (seed).c, w32 (seed).d, i64 (n : Int), i64 (m : Int)]) ∧ (Has wz b11 24 [w32 (root (publics seed (pw n))).a, w32 (root (publics seed (pw n))).b, w32 (root (publics seed (pw n))).c, w32 (root (publics seed (pw n))).d]) ∧ (SlT DG 0 (w0.heap.size + 1) (l) x1 wz) ∧ (k ≤ l.length) ∧ (m = min k (pw n))) ?_ ?_
 exact ⟨_, 0, 0, rfl, N17, D17, s2_17, s8_17, s9_17, s11_17, s13_17, E17, B3_17, B9_17, B11_17, X1_17, Nat.zero_le _, (Nat.zero_min _).symm⟩
 rintro mz a18 wd18 ⟨k, m, rfl, N18, D18, s2_18, s8_18, s9_18, s11_18, s13_18, E18, B3_18, B9_18, B11_18, X1_18, hk, hm⟩
 refine wp_seq ?_
 refine wp_seq ?_
 refine Rl [] [(41, Pr.ex (i64 (k : Int))), (42, Pr.ex (x1)), (43, Pr.ex (i64 (l.length : Int))), (44, Pr.ex (Value.bool (decide ((k : Int) < (l.length : Int)))))] 4 N18 D18 ?_ ?_
 refine Ac ?_ (Ac ?_ (Ac ?_ (Ac ?_ (Az _))))
 exact Am s13_18 rfl fun _ => rfl
 exact Am s2_18 rfl fun _ => rfl
 exact Ap fun aq wq _ hO hR hT => does_len (T := DG) (xs := l) sli_34 (SlT.at (hT 42 rfl rfl) (X1_18.ext' hR)) eR
 exact Ap fun aq wq _ hO hR hT => does_lss (a := (k : Int)) (b := (l.length : Int)) (hT 41 rfl rfl) (hT 43 rfl rfl) eR
 intro a19 wd19 N19 D19 hO hR hA hU
 obtain ⟨_, _, _, t44, _⟩ := hA
 have E19 := E18.trans hR
 have s2_19 := oT hO s2_18 rfl
 have s8_19 := oT hO s8_18 rfl
 have s9_19 := oT hO s9_18 rfl
 have s11_19 := oT hO s11_18 rfl
 have s13_19 := oT hO s13_18 rfl
 have B3_19 := B3_18.ext' hR
 have B9_19 := B9_18.ext' hR
 have B11_19 := B11_18.ext' hR
 have X1_19 := X1_18.ext' hR
 have s44_19 : get a19 44 = Value.bool (decide ((k : Int) < (l.length : Int))) := t44
 clear E18 N18 D18 s2_18 s8_18 s9_18 s11_18 s13_18 B3_18 B9_18 B11_18 X1_18
 refine tail_nil ?_
 refine wp_if (B := decide ((k : Int) < (l.length : Int))) s44_19 (fun hc3 => ?_) (fun hc3 => ?_)
 have hc3 := of_decide_eq_true hc3
 obtain ⟨md, hx⟩ := get_of_lt (l := l) (k := k) (by omega)
 refine wp_skip ?_
 refine wp_seq ?_
 refine wp_block ?_
 refine wp_seq ?_
 refine region_late [14, 15] [(48, Pr.ex (Value.agg #[w32 (seed).a, w32 (seed).b, w32 (seed).c, w32 (seed).d, i64 (n : Int), i64 (m : Int)])), (49, Pr.ex (x1)), (50, Pr.ex (i64 (k : Int))), (51, Pr.pt' 0 (w0.heap.size + 1) [w32 (md).a, w32 (md).b, w32 (md).c, w32 (md).d]), (52, Pr.ex (Dg.val (md))), (53, Pr.t3 (Pr.ex (Value.agg #[w32 ((keyUse seed ((n : Int)) ((m : Int)) md).1).a, w32 ((keyUse seed ((n : Int)) ((m : Int)) md).1).b, w32 ((keyUse seed ((n : Int)) ((m : Int)) md).1).c, w32 ((keyUse seed ((n : Int)) ((m : Int)) md).1).d, i64 ((keyUse seed ((n : Int)) ((m : Int)) md).2.1), i64 ((keyUse seed ((n : Int)) ((m : Int)) md).2.2.1)])) (Pr.ag2 (fun x y => Value.agg #[i64 ((keyUse seed ((n : Int)) ((m : Int)) md).2.2.2.1), x, y]) (Pr.own' DG wd19.heap.size 24 ((keyUse seed ((n : Int)) ((m : Int)) md).2.2.2.2.1)) (Pr.own' DG wd19.heap.size 24 ((keyUse seed ((n : Int)) ((m : Int)) md).2.2.2.2.2.1))) (Pr.ex (i64 (((keyUse seed ((n : Int)) ((m : Int)) md).2.2.2.2.2.2 : Nat) : Int)))), (47, Pr.t3 (Pr.ex (Value.agg #[w32 ((keyUse seed ((n : Int)) ((m : Int)) md).1).a, w32 ((keyUse seed ((n : Int)) ((m : Int)) md).1).b, w32 ((keyUse seed ((n : Int)) ((m : Int)) md).1).c, w32 ((keyUse seed ((n : Int)) ((m : Int)) md).1).d, i64 ((keyUse seed ((n : Int)) ((m : Int)) md).2.1), i64 ((keyUse seed ((n : Int)) ((m : Int)) md).2.2.1)])) (Pr.ag2 (fun x y => Value.agg #[i64 ((keyUse seed ((n : Int)) ((m : Int)) md).2.2.2.1), x, y]) (Pr.own' DG wd19.heap.size 24 ((keyUse seed ((n : Int)) ((m : Int)) md).2.2.2.2.1)) (Pr.own' DG wd19.heap.size 24 ((keyUse seed ((n : Int)) ((m : Int)) md).2.2.2.2.2.1))) (Pr.ex (i64 (((keyUse seed ((n : Int)) ((m : Int)) md).2.2.2.2.2.2 : Nat) : Int)))), (54, Pr.ex (Value.agg #[w32 ((keyUse seed ((n : Int)) ((m : Int)) md).1).a, w32 ((keyUse seed ((n : Int)) ((m : Int)) md).1).b, w32 ((keyUse seed ((n : Int)) ((m : Int)) md).1).c, w32 ((keyUse seed ((n : Int)) ((m : Int)) md).1).d, i64 ((keyUse seed ((n : Int)) ((m : Int)) md).2.1), i64 ((keyUse seed ((n : Int)) ((m : Int)) md).2.2.1)])), (55, Pr.ag2 (fun x y => Value.agg #[i64 ((keyUse seed ((n : Int)) ((m : Int)) md).2.2.2.1), x, y]) (Pr.own' DG wd19.heap.size 24 ((keyUse seed ((n : Int)) ((m : Int)) md).2.2.2.2.1)) (Pr.own' DG wd19.heap.size 24 ((keyUse seed ((n : Int)) ((m : Int)) md).2.2.2.2.2.1))), (56, Pr.ex (i64 (((keyUse seed ((n : Int)) ((m : Int)) md).2.2.2.2.2.2 : Nat) : Int))), (14, Pr.box' wd19.heap.size 30 [w32 (Dg.zero).a, w32 (Dg.zero).b, w32 (Dg.zero).c, w32 (Dg.zero).d, i64 ((0 : Nat) : Int), i64 ((0 : Nat) : Int)]), (15, Pr.box' wd19.heap.size 37 [i64 ((0 : Nat) : Int), Value.slice none 0 0, Value.slice none 0 0])] 12 [8, 9] (fun k => wd19.heap.size ≤ k) mixed N19 D19 (by kernel_rfl) (by kernel_rfl) (by kernel_rfl) (by kernel_rfl) (fun d v c a w h => by cases d <;> exact h) ?_ ?_ ?_
 refine Ac ?_ (Ac ?_ (Ac ?_ (Ac ?_ (Ac ?_ (Ac ?_ (Ac ?_ (Ac ?_ (Ac ?_ (Ac ?_ (Ac ?_ (Ac ?_ (Az _))))))))))))
 exact Ad fun aq wq _ hO hR hT => does_loadD (o := 0) (n := 6) (mid := [w32 (seed).a, w32 (seed).b, w32 (seed).c, w32 (seed).d, i64 (n : Int), i64 (m : Int)]) (oT hO s9_19 rfl) (B9_19.ext' hR) rfl rfl (nB rfl) row_30 rfl eR
 exact Am s2_19 rfl fun _ => rfl
 exact Am s13_19 rfl fun _ => rfl
 exact Ad fun aq wq _ hO hR hT => does_indexSl (T := DG) (xs := l) (i := (k : Int)) (X := md) sli_34 rfl (SlT.at (hT 49 rfl rfl) (X1_19.ext' hR)) (hT 50 rfl rfl) (by omega) hx (fun v h => ⟨Ext.refl _, h⟩)
 exact Ad fun aq wq _ hO hR hT => does_loadP (cs := [w32 (md).a, w32 (md).b, w32 (md).c, w32 (md).d]) (hT 51 rfl rfl) row_24 rfl eR
 exact Ad fun aq wq _ hO hR hT => does_ret (vs := #[Value.agg #[w32 (seed).a, w32 (seed).b, w32 (seed).c, w32 (seed).d, i64 (n : Int), i64 (m : Int)], Dg.val (md)]) call_11 (args2 (hT 48 rfl rfl) (hT 52 rfl rfl)) rfl ((keyUse_ seed ((n : Int)) ((m : Int)) md wq (hL.ext (E19.trans hR))).mono fun v w2 h => ⟨h.2, by obtain ⟨x0, x1, x2, hv, k0, k1, k2⟩ := h.1; exact ⟨x0, x1, x2, hv, k0, (by obtain ⟨z0, z1, hz, kz0, kz1⟩ := k1; exact ⟨z0, z1, hz, OwnT.base kz0 hR.size', OwnT.base kz1 hR.size'⟩), k2⟩⟩)
 exact Ad fun aq wq _ hO hR hT => does_move rfl ⟨Ext.refl _, (hT 53 rfl rfl)⟩
 exact Ad fun aq wq _ hO hR hT => by
  obtain ⟨x0, x1, x2, hv, k0, k1, k2⟩ := (hT 47 rfl rfl)
  exact does_extract (V := Value.agg #[w32 ((keyUse seed ((n : Int)) ((m : Int)) md).1).a, w32 ((keyUse seed ((n : Int)) ((m : Int)) md).1).b, w32 ((keyUse seed ((n : Int)) ((m : Int)) md).1).c, w32 ((keyUse seed ((n : Int)) ((m : Int)) md).1).d, i64 ((keyUse seed ((n : Int)) ((m : Int)) md).2.1), i64 ((keyUse seed ((n : Int)) ((m : Int)) md).2.2.1)]) hv (by rw [show x0 = Value.agg #[w32 ((keyUse seed ((n : Int)) ((m : Int)) md).1).a, w32 ((keyUse seed ((n : Int)) ((m : Int)) md).1).b, w32 ((keyUse seed ((n : Int)) ((m : Int)) md).1).c, w32 ((keyUse seed ((n : Int)) ((m : Int)) md).1).d, i64 ((keyUse seed ((n : Int)) ((m : Int)) md).2.1), i64 ((keyUse seed ((n : Int)) ((m : Int)) md).2.2.1)] from k0]; rfl) ⟨Ext.refl _, rfl⟩
 exact Ad fun aq wq _ hO hR hT => by
  obtain ⟨x0, x1, x2, hv, k0, k1, k2⟩ := (hT 47 rfl rfl)
  exact does_extract hv rfl ⟨Ext.refl _, k1⟩
 exact Ad fun aq wq _ hO hR hT => by
  obtain ⟨x0, x1, x2, hv, k0, k1, k2⟩ := (hT 47 rfl rfl)
  exact does_extract (V := i64 (((keyUse seed ((n : Int)) ((m : Int)) md).2.2.2.2.2.2 : Nat) : Int)) hv (by rw [show x2 = i64 (((keyUse seed ((n : Int)) ((m : Int)) md).2.2.2.2.2.2 : Nat) : Int) from k2]; rfl) ⟨Ext.refl _, rfl⟩
 refine Ask.fresh rfl rfl ?_
 intro aq wq hNq hO hR hT
 replace hR := (Ext.drew _).trans hR
 exact does_alloc zero_30 (fun b w2 he hlo hb => ⟨he, ⟨b, rfl, Nat.le_trans hR.size' hlo, hb⟩, ⟨b, rfl, hlo, hb.lt⟩⟩)
 refine Ask.fresh rfl rfl ?_
 intro aq wq hNq hO hR hT
 replace hR := (Ext.drew _).trans hR
 exact does_alloc zero_37 (fun b w2 he hlo hb => ⟨he, ⟨b, rfl, Nat.le_trans hR.size' hlo, hb⟩, ⟨b, rfl, hlo, hb.lt⟩⟩)
 refine LateAsks.cons rfl rfl rfl ?_ (LateAsks.cons rfl rfl rfl ?_ LateAsks.nil)
 intro aq wq hO hR hT
 have hR0 := hR
 replace hR := (Ext.drew _).trans hR
 obtain ⟨x0, x1, x2, hv, k0, k1, k2⟩ := (hT 47 rfl rfl)
 exact ⟨_, yl_extract hv rfl, k1⟩
 intro aq wq hO hR hT
 have hR0 := hR
 replace hR := (Ext.drew _).trans hR
 obtain ⟨x0, x1, x2, hv, k0, k1, k2⟩ := (hT 47 rfl rfl)
 exact ⟨_, yl_extract (V := i64 (((keyUse seed ((n : Int)) ((m : Int)) md).2.2.2.2.2.2 : Nat) : Int)) hv (by rw [show x2 = i64 (((keyUse seed ((n : Int)) ((m : Int)) md).2.2.2.2.2.2 : Nat) : Int) from k2]; rfl), rfl⟩
 intro wl hwl hwh a20 wd20 N20 D20 hO hR hA hU
 have hS_20 : ExtE (fun k => wd19.heap.size ≤ k) wl wd20 := hR.toE
 replace hR := hwl.trans hR
 obtain ⟨_, _, _, _, _, _, _, t54, t55, t56, t14, t15, _⟩ := hA
 have E20 := E19.trans hR
 have s2_20 := oT hO s2_19 rfl
 have s8_20 := oT hO s8_19 rfl
 have s9_20 := oT hO s9_19 rfl
 have s11_20 := oT hO s11_19 rfl
 have s13_20 := oT hO s13_19 rfl
 have B3_20 := B3_19.ext' hR
 have B9_20 := B9_19.ext' hR
 have B11_20 := B11_19.ext' hR
 have X1_20 := X1_19.ext' hR
 have s54_20 : get a20 54 = Value.agg #[w32 ((keyUse seed ((n : Int)) ((m : Int)) md).1).a, w32 ((keyUse seed ((n : Int)) ((m : Int)) md).1).b, w32 ((keyUse seed ((n : Int)) ((m : Int)) md).1).c, w32 ((keyUse seed ((n : Int)) ((m : Int)) md).1).d, i64 ((keyUse seed ((n : Int)) ((m : Int)) md).2.1), i64 ((keyUse seed ((n : Int)) ((m : Int)) md).2.2.1)] := t54
 obtain ⟨x55_0_20, x55_1_20, s55_20, ky55_0_20, ky55_1_20⟩ := t55
 replace ky55_0_20 : OwnT DG wd19.heap.size 24 ((keyUse seed ((n : Int)) ((m : Int)) md).2.2.2.2.1) x55_0_20 wd20 := ky55_0_20
 have nbo_x55_0_20_b3 := Ob1 ky55_0_20 B3_19
 have nbo_x55_0_20_b9 := Ob1 ky55_0_20 B9_19
 have nbo_x55_0_20_b11 := Ob1 ky55_0_20 B11_19
 have X55_0_20_20 := ky55_0_20.sl.wide (Nat.zero_le _) (.inl rfl)
 have O55_0_20_20 := OwnT.base ky55_0_20 E19.size'
 replace ky55_1_20 : OwnT DG wd19.heap.size 24 ((keyUse seed ((n : Int)) ((m : Int)) md).2.2.2.2.2.1) x55_1_20 wd20 := ky55_1_20
 have nbo_x55_1_20_b3 := Ob1 ky55_1_20 B3_19
 have nbo_x55_1_20_b9 := Ob1 ky55_1_20 B9_19
 have nbo_x55_1_20_b11 := Ob1 ky55_1_20 B11_19
 have X55_1_20_20 := ky55_1_20.sl.wide (Nat.zero_le _) (.inl rfl)
 have O55_1_20_20 := OwnT.base ky55_1_20 E19.size'
 have s56_20 : get a20 56 = i64 (((keyUse seed ((n : Int)) ((m : Int)) md).2.2.2.2.2.2 : Nat) : Int) := t56
 obtain ⟨b14, s14_20, lo_b14, B14_20⟩ := t14
 have ne_b3_b14 := Hl B3_19 lo_b14
 have ne_b9_b14 := Hl B9_19 lo_b14
 have ne_b11_b14 := Hl B11_19 lo_b14
 have nb_x1_b14 := SlT.old X1_19 lo_b14
 have fr_b14 : w0.heap.size ≤ b14 := Nat.le_trans E19.size' lo_b14
 obtain ⟨b15, s15_20, lo_b15, B15_20⟩ := t15
 have ne_b3_b15 := Hl B3_19 lo_b15
 have ne_b9_b15 := Hl B9_19 lo_b15
 have ne_b11_b15 := Hl B11_19 lo_b15
 have nb_x1_b15 := SlT.old X1_19 lo_b15
 have fr_b15 : w0.heap.size ≤ b15 := Nat.le_trans E19.size' lo_b15
 have nbo_x55_0_20_b14 := OwnT.typed O55_0_20_20 B14_20 (by decide)
 have nbo_x55_0_20_b15 := OwnT.typed O55_0_20_20 B15_20 (by decide)
 have nbo_x55_1_20_b14 := OwnT.typed O55_1_20_20 B14_20 (by decide)
 have nbo_x55_1_20_b15 := OwnT.typed O55_1_20_20 B15_20 (by decide)
 obtain ⟨u0, ⟨u1, _⟩⟩ := hU
 have ne_b14_b15 : b14 ≠ b15 := fun e => u0 15 (by decide) (by rw [s14_20, s15_20, e])
 clear E19 N19 D19 s2_19 s8_19 s9_19 s11_19 s13_19 s44_19 B3_19 B9_19 B11_19 X1_19
 refine tailS_none rfl rfl (does_storeD (o := 0) (n := 6) (cs' := [w32 ((keyUse seed ((n : Int)) ((m : Int)) md).1).a, w32 ((keyUse seed ((n : Int)) ((m : Int)) md).1).b, w32 ((keyUse seed ((n : Int)) ((m : Int)) md).1).c, w32 ((keyUse seed ((n : Int)) ((m : Int)) md).1).d, i64 ((keyUse seed ((n : Int)) ((m : Int)) md).2.1), i64 ((keyUse seed ((n : Int)) ((m : Int)) md).2.2.1)]) (V := Value.agg #[w32 ((keyUse seed ((n : Int)) ((m : Int)) md).1).a, w32 ((keyUse seed ((n : Int)) ((m : Int)) md).1).b, w32 ((keyUse seed ((n : Int)) ((m : Int)) md).1).c, w32 ((keyUse seed ((n : Int)) ((m : Int)) md).1).d, i64 ((keyUse seed ((n : Int)) ((m : Int)) md).2.1), i64 ((keyUse seed ((n : Int)) ((m : Int)) md).2.2.1)]) s14_20 s54_20 B14_20 (nB rfl) rfl siz_30 rfl rfl (fun wd21 hX hz B14_21 => ⟨hS_20.trans (hX.mono fun k _ e => (e ▸ (Nat.le_trans (Nat.le_refl _) lo_b14))), ?_⟩))
 have hS_21 := hS_20.trans (hX.mono (E' := (fun k => wd19.heap.size ≤ k)) fun k _ e => (e ▸ (Nat.le_trans (Nat.le_refl _) lo_b14)))
 have E21 := E20.since hX (fun k e => e ▸ fr_b14)
 have B3_21 := B3_20.ext hX ne_b3_b14
 have B9_21 := B9_20.ext hX ne_b9_b14
 have B11_21 := B11_20.ext hX ne_b11_b14
 have B15_21 := B15_20.ext hX ne_b14_b15.symm
 have X1_21 := SlT.over X1_20 hX nb_x1_b14
 have X55_0_20_21 := SlT.over X55_0_20_20 hX (fun _ => nbo_x55_0_20_b14)
 have X55_1_20_21 := SlT.over X55_1_20_20 hX (fun _ => nbo_x55_1_20_b14)
 have O55_0_20_21 := OwnT.ext O55_0_20_20 hX (fun k hk e => nbo_x55_0_20_b14 (e ▸ hk))
 have O55_1_20_21 := OwnT.ext O55_1_20_20 hX (fun k hk e => nbo_x55_1_20_b14 (e ▸ hk))
 clear hX hz E20 B3_20 B9_20 B11_20 B14_20 B15_20 X1_20 X55_0_20_20 X55_1_20_20 O55_0_20_20 O55_1_20_20
 refine tailS_none rfl rfl (does_storeD (o := 0) (n := 3) (cs' := [i64 ((keyUse seed ((n : Int)) ((m : Int)) md).2.2.2.1), x55_0_20, x55_1_20]) (V := Value.agg #[i64 ((keyUse seed ((n : Int)) ((m : Int)) md).2.2.2.1), x55_0_20, x55_1_20]) s15_20 s55_20 B15_21 (nB rfl) rfl siz_37 (one_cons rfl (one_cons (SlT.one X55_0_20_21) (one_cons (SlT.one X55_1_20_21) one_nil))) rfl (fun wd22 hX hz B15_22 => ⟨hS_21.trans (hX.mono fun k _ e => (e ▸ (Nat.le_trans (Nat.le_refl _) lo_b15))), ?_⟩))
 have hS_22 := hS_21.trans (hX.mono (E' := (fun k => wd19.heap.size ≤ k)) fun k _ e => (e ▸ (Nat.le_trans (Nat.le_refl _) lo_b15)))
 have E22 := E21.since hX (fun k e => e ▸ fr_b15)
 have B3_22 := B3_21.ext hX ne_b3_b15
 have B9_22 := B9_21.ext hX ne_b9_b15
 have B11_22 := B11_21.ext hX ne_b11_b15
 have B14_22 := B14_21.ext hX ne_b14_b15
 have X1_22 := SlT.over X1_21 hX nb_x1_b15
 have X55_0_20_22 := SlT.over X55_0_20_21 hX (fun _ => nbo_x55_0_20_b15)
 have X55_1_20_22 := SlT.over X55_1_20_21 hX (fun _ => nbo_x55_1_20_b15)
 have O55_0_20_22 := OwnT.ext O55_0_20_21 hX (fun k hk e => nbo_x55_0_20_b15 (e ▸ hk))
 have O55_1_20_22 := OwnT.ext O55_1_20_21 hX (fun k hk e => nbo_x55_1_20_b15 (e ▸ hk))
 clear hX hz E21 B3_21 B9_21 B11_21 B14_21 B15_21 X1_21 X55_0_20_21 X55_1_20_21 O55_0_20_21 O55_1_20_21
 refine tailS_put rfl rfl N20 D20 (by decide) (does_assign (V := i64 (((keyUse seed ((n : Int)) ((m : Int)) md).2.2.2.2.2.2 : Nat) : Int)) s56_20 (⟨hS_22, fun a23 N23 D23 hv hO => ?_⟩))
 have s16_23 := hv
 have s2_23 := oT hO s2_20 rfl
 have s8_23 := oT hO s8_20 rfl
 have s9_23 := oT hO s9_20 rfl
 have s11_23 := oT hO s11_20 rfl
 have s13_23 := oT hO s13_20 rfl
 have s14_23 := oT hO s14_20 rfl
 have s15_23 := oT hO s15_20 rfl
 clear hO hv N20 D20 s2_20 s8_20 s9_20 s11_20 s13_20 s14_20 s15_20 s54_20 s55_20 s56_20
 refine tailS_nil ?_
 refine wp_seq ?_
 refine wp_seq ?_
 refine Rl [] [(57, Pr.ex (i64 (k : Int))), (58, Pr.ex (i64 ((pw n : Nat) : Int))), (59, Pr.ex (Value.bool (decide (((pw n : Nat) : Int) ≤ (k : Int)))))] 3 N23 D23 ?_ ?_
 refine Ac ?_ (Ac ?_ (Ac ?_ (Az _)))
 exact Am s13_23 rfl fun _ => rfl
 exact Am s8_23 rfl fun _ => rfl
 exact Ap fun aq wq _ hO hR hT => does_geq (a := (k : Int)) (b := ((pw n : Nat) : Int)) (hT 57 rfl rfl) (hT 58 rfl rfl) eR
 intro a24 wd24 N24 D24 hO hR hA hU
 obtain ⟨_, _, t59, _⟩ := hA
 have E24 := E22.trans hR
 have s2_24 := oT hO s2_23 rfl
 have s8_24 := oT hO s8_23 rfl
 have s9_24 := oT hO s9_23 rfl
 have s11_24 := oT hO s11_23 rfl
 have s13_24 := oT hO s13_23 rfl
 have s14_24 := oT hO s14_23 rfl
 have s15_24 := oT hO s15_23 rfl
 have s16_24 := oT hO s16_23 rfl
 have B3_24 := B3_22.ext' hR
 have B9_24 := B9_22.ext' hR
 have B11_24 := B11_22.ext' hR
 have B14_24 := B14_22.ext' hR
 have B15_24 := B15_22.ext' hR
 have X1_24 := X1_22.ext' hR
 have X55_0_20_24 := X55_0_20_22.ext' hR
 have X55_1_20_24 := X55_1_20_22.ext' hR
 have O55_0_20_24 := O55_0_20_22.ext' hR
 have O55_1_20_24 := O55_1_20_22.ext' hR
 have s59_24 : get a24 59 = Value.bool (decide (((pw n : Nat) : Int) ≤ (k : Int))) := t59
 clear E22 N23 D23 s2_23 s8_23 s9_23 s11_23 s13_23 s14_23 s15_23 s16_23 B3_22 B9_22 B11_22 B14_22 B15_22 X1_22 X55_0_20_22 X55_1_20_22 O55_0_20_22 O55_1_20_22
 refine tail_nil ?_
 refine wp_if (B := decide (((pw n : Nat) : Int) ≤ (k : Int))) s59_24 (fun hc4 => ?_) (fun hc4 => ?_)
 have hc4 := of_decide_eq_true hc4
 have hno : ¬ (0 ≤ (m : Int) ∧ (m : Int) < ((pw n : Nat) : Int)) := by omega
 refine wp_seq ?_
 refine wp_seq ?_
 refine Rl [] [(60, Pr.ex (i64 (((keyUse seed ((n : Int)) ((m : Int)) md).2.2.2.2.2.2 : Nat) : Int))), (61, Pr.ex (Value.bool (!decide ((((keyUse seed ((n : Int)) ((m : Int)) md).2.2.2.2.2.2 : Nat) : Int) = ((9 : Nat) : Int))))), (62, Pr.ex (Value.bool (!decide ((((keyUse seed ((n : Int)) ((m : Int)) md).2.2.2.2.2.2 : Nat) : Int) = ((9 : Nat) : Int))))), (63, Pr.ifb (!(!decide ((((keyUse seed ((n : Int)) ((m : Int)) md).2.2.2.2.2.2 : Nat) : Int) = ((9 : Nat) : Int)))) (Pr.ex (Value.agg #[w32 ((keyUse seed ((n : Int)) ((m : Int)) md).1).a, w32 ((keyUse seed ((n : Int)) ((m : Int)) md).1).b, w32 ((keyUse seed ((n : Int)) ((m : Int)) md).1).c, w32 ((keyUse seed ((n : Int)) ((m : Int)) md).1).d, i64 ((keyUse seed ((n : Int)) ((m : Int)) md).2.1), i64 ((keyUse seed ((n : Int)) ((m : Int)) md).2.2.1)]))), (64, Pr.ifb (!(!decide ((((keyUse seed ((n : Int)) ((m : Int)) md).2.2.2.2.2.2 : Nat) : Int) = ((9 : Nat) : Int)))) (Pr.ex (Value.agg #[w32 (Dg.zero).a, w32 (Dg.zero).b, w32 (Dg.zero).c, w32 (Dg.zero).d, i64 ((0 : Nat) : Int), i64 ((0 : Nat) : Int)]))), (65, Pr.ifb (!(!decide ((((keyUse seed ((n : Int)) ((m : Int)) md).2.2.2.2.2.2 : Nat) : Int) = ((9 : Nat) : Int)))) (Pr.ex (Value.bool (!decide ((⟨(keyUse seed ((n : Int)) ((m : Int)) md).1, (keyUse seed ((n : Int)) ((m : Int)) md).2.1, (keyUse seed ((n : Int)) ((m : Int)) md).2.2.1⟩ : Signer) = (⟨Dg.zero, ((0 : Nat) : Int), ((0 : Nat) : Int)⟩ : Signer)))))), (66, Pr.ex (Value.bool ((!decide ((((keyUse seed ((n : Int)) ((m : Int)) md).2.2.2.2.2.2 : Nat) : Int) = ((9 : Nat) : Int))) || (!decide ((⟨(keyUse seed ((n : Int)) ((m : Int)) md).1, (keyUse seed ((n : Int)) ((m : Int)) md).2.1, (keyUse seed ((n : Int)) ((m : Int)) md).2.2.1⟩ : Signer) = (⟨Dg.zero, ((0 : Nat) : Int), ((0 : Nat) : Int)⟩ : Signer))))))] 7 N24 D24 ?_ ?_
 refine Ac ?_ (Ac ?_ (Ac ?_ (Ac ?_ (Ac ?_ (Ac ?_ (Ac ?_ (Az _)))))))
 exact Am s16_24 rfl fun _ => rfl
 exact Ap fun aq wq _ hO hR hT => does_neq (a := (((keyUse seed ((n : Int)) ((m : Int)) md).2.2.2.2.2.2 : Nat) : Int)) (b := ((9 : Nat) : Int)) (hT 60 rfl rfl) rfl eR
 exact Ap fun aq wq _ hO hR hT => does_move (V := Value.bool (!decide ((((keyUse seed ((n : Int)) ((m : Int)) md).2.2.2.2.2.2 : Nat) : Int) = ((9 : Nat) : Int)))) (hT 61 rfl rfl) eR
 refine Ask.guarded (B := !decide ((((keyUse seed ((n : Int)) ((m : Int)) md).2.2.2.2.2.2 : Nat) : Int) = ((9 : Nat) : Int))) (want := false) (t := 62) rfl rfl rfl rfl (by decide) (fun aq wq hO hR hT => hT 62 rfl rfl) (fun hG aq wq hNq hO hR hT => ?_) (fun hno _ => fun hc => absurd (bn hc) hno)
 replace hG := nb hG
 exact does_loadD (o := 0) (n := 6) (mid := [w32 ((keyUse seed ((n : Int)) ((m : Int)) md).1).a, w32 ((keyUse seed ((n : Int)) ((m : Int)) md).1).b, w32 ((keyUse seed ((n : Int)) ((m : Int)) md).1).c, w32 ((keyUse seed ((n : Int)) ((m : Int)) md).1).d, i64 ((keyUse seed ((n : Int)) ((m : Int)) md).2.1), i64 ((keyUse seed ((n : Int)) ((m : Int)) md).2.2.1)]) (oT hO s14_24 rfl) (B14_24.ext' hR) rfl rfl (nB rfl) row_30 rfl ⟨Ext.refl _, fun _ => rfl⟩
 refine Ask.guarded (B := !decide ((((keyUse seed ((n : Int)) ((m : Int)) md).2.2.2.2.2.2 : Nat) : Int) = ((9 : Nat) : Int))) (want := false) (t := 62) rfl rfl rfl rfl (by decide) (fun aq wq hO hR hT => hT 62 rfl rfl) (fun hG aq wq hNq hO hR hT => ?_) (fun hno _ => fun hc => absurd (bn hc) hno)
 replace hG := nb hG
 exact does_build (vs := #[]) (V := Value.agg #[w32 (Dg.zero).a, w32 (Dg.zero).b, w32 (Dg.zero).c, w32 (Dg.zero).d, i64 ((0 : Nat) : Int), i64 ((0 : Nat) : Int)]) parts0 (by kernel_rfl) ⟨Ext.refl _, fun _ => rfl⟩
 refine Ask.guarded (B := !decide ((((keyUse seed ((n : Int)) ((m : Int)) md).2.2.2.2.2.2 : Nat) : Int) = ((9 : Nat) : Int))) (want := false) (t := 62) rfl rfl rfl rfl (by decide) (fun aq wq hO hR hT => hT 62 rfl rfl) (fun hG aq wq hNq hO hR hT => ?_) (fun hno _ => fun hc => absurd (bn hc) hno)
 replace hG := nb hG
 exact does_neT (a := (⟨(keyUse seed ((n : Int)) ((m : Int)) md).1, (keyUse seed ((n : Int)) ((m : Int)) md).2.1, (keyUse seed ((n : Int)) ((m : Int)) md).2.2.1⟩ : Signer)) (b := (⟨Dg.zero, ((0 : Nat) : Int), ((0 : Nat) : Int)⟩ : Signer)) eq_30 (hT 63 rfl rfl hG) (hT 64 rfl rfl hG) ⟨Ext.refl _, fun _ => rfl⟩
 exact Ap fun aq wq _ hO hR hT => does_or (B := !decide ((((keyUse seed ((n : Int)) ((m : Int)) md).2.2.2.2.2.2 : Nat) : Int) = ((9 : Nat) : Int))) (X := !decide ((⟨(keyUse seed ((n : Int)) ((m : Int)) md).1, (keyUse seed ((n : Int)) ((m : Int)) md).2.1, (keyUse seed ((n : Int)) ((m : Int)) md).2.2.1⟩ : Signer) = (⟨Dg.zero, ((0 : Nat) : Int), ((0 : Nat) : Int)⟩ : Signer))) (hT 62 rfl rfl) rfl (fun hB => (hT 65 rfl rfl (nb hB))) eR
 intro a25 wd25 N25 D25 hO hR hA hU
 obtain ⟨_, _, _, _, _, _, t66, _⟩ := hA
 have E25 := E24.trans hR
 have s2_25 := oT hO s2_24 rfl
 have s8_25 := oT hO s8_24 rfl
 have s9_25 := oT hO s9_24 rfl
 have s11_25 := oT hO s11_24 rfl
 have s13_25 := oT hO s13_24 rfl
 have B3_25 := B3_24.ext' hR
 have B9_25 := B9_24.ext' hR
 have B11_25 := B11_24.ext' hR
 have B14_25 := B14_24.ext' hR
 have B15_25 := B15_24.ext' hR
 have X1_25 := X1_24.ext' hR
 have X55_0_20_25 := X55_0_20_24.ext' hR
 have X55_1_20_25 := X55_1_20_24.ext' hR
 have O55_0_20_25 := O55_0_20_24.ext' hR
 have O55_1_20_25 := O55_1_20_24.ext' hR
 have s66_25 : get a25 66 = Value.bool ((!decide ((((keyUse seed ((n : Int)) ((m : Int)) md).2.2.2.2.2.2 : Nat) : Int) = ((9 : Nat) : Int))) || (!decide ((⟨(keyUse seed ((n : Int)) ((m : Int)) md).1, (keyUse seed ((n : Int)) ((m : Int)) md).2.1, (keyUse seed ((n : Int)) ((m : Int)) md).2.2.1⟩ : Signer) = (⟨Dg.zero, ((0 : Nat) : Int), ((0 : Nat) : Int)⟩ : Signer)))) := t66
 clear E24 N24 D24 s2_24 s8_24 s9_24 s11_24 s13_24 s14_24 s15_24 s16_24 s59_24 B3_24 B9_24 B11_24 B14_24 B15_24 X1_24 X55_0_20_24 X55_1_20_24 O55_0_20_24 O55_1_20_24
 refine tail_nil ?_
 refine wp_if (B := (!decide ((((keyUse seed ((n : Int)) ((m : Int)) md).2.2.2.2.2.2 : Nat) : Int) = ((9 : Nat) : Int))) || (!decide ((⟨(keyUse seed ((n : Int)) ((m : Int)) md).1, (keyUse seed ((n : Int)) ((m : Int)) md).2.1, (keyUse seed ((n : Int)) ((m : Int)) md).2.2.1⟩ : Signer) = (⟨Dg.zero, ((0 : Nat) : Int), ((0 : Nat) : Int)⟩ : Signer)))) s66_25 (fun hc5 => ?_) (fun hc5 => ?_)
 rw [keyUse_arg hn4 hno] at hc5; simp at hc5
 refine wp_skip ?_
 refine wp_exit ?_
 refine Rl [] [(45, Pr.ex (i64 (k : Int))), (46, Pr.ex (i64 ((k + 1 : Nat) : Int)))] 2 N25 D25 ?_ ?_
 refine Ac ?_ (Ac ?_ (Az _))
 exact Am s13_25 rfl fun _ => rfl
 exact Ap fun aq wq _ hO hR hT => does_add (a := (k : Int)) (b := ((1 : Nat) : Int)) (r := ((k + 1 : Nat) : Int)) (hT 45 rfl rfl) rfl (by omega) (by omega) (by omega) eR
 intro a26 wd26 N26 D26 hO hR hA hU
 obtain ⟨_, t46, _⟩ := hA
 have E26 := E25.trans hR
 have s2_26 := oT hO s2_25 rfl
 have s8_26 := oT hO s8_25 rfl
 have s9_26 := oT hO s9_25 rfl
 have s11_26 := oT hO s11_25 rfl
 have s13_26 := oT hO s13_25 rfl
 have B3_26 := B3_25.ext' hR
 have B9_26 := B9_25.ext' hR
 have B11_26 := B11_25.ext' hR
 have B14_26 := B14_25.ext' hR
 have B15_26 := B15_25.ext' hR
 have X1_26 := X1_25.ext' hR
 have X55_0_20_26 := X55_0_20_25.ext' hR
 have X55_1_20_26 := X55_1_20_25.ext' hR
 have O55_0_20_26 := O55_0_20_25.ext' hR
 have O55_1_20_26 := O55_1_20_25.ext' hR
 have s46_26 : get a26 46 = i64 ((k + 1 : Nat) : Int) := t46
 clear E25 N25 D25 s2_25 s8_25 s9_25 s11_25 s13_25 s66_25 B3_25 B9_25 B11_25 B14_25 B15_25 X1_25 X55_0_20_25 X55_1_20_25 O55_0_20_25 O55_1_20_25
 refine tail_put rfl rfl N26 D26 (by decide) (does_assign (V := i64 ((k + 1 : Nat) : Int)) s46_26 (fun a27 N27 D27 hv hO => ?_))
 have s13_27 := hv
 have s2_27 := oT hO s2_26 rfl
 have s8_27 := oT hO s8_26 rfl
 have s9_27 := oT hO s9_26 rfl
 have s11_27 := oT hO s11_26 rfl
 clear hO hv N26 D26 s2_26 s8_26 s9_26 s11_26 s46_26 s13_26
 refine tail_nil ?_
 exact ⟨_, by omega, k + 1, m, rfl, N27, D27, s2_27, s8_27, s9_27, s11_27, s13_27, E26, B3_26, B9_26, B11_26, X1_26, by omega, by omega⟩
 have hc4 := of_decide_eq_false hc4
 have hmk : m = k := by omega
 have hj : m < pw n := by omega
 refine wp_skip ?_
 refine wp_seq ?_
 refine wp_seq ?_
 refine Ra [] [(67, Pr.ex (i64 (((keyUse seed ((n : Int)) ((m : Int)) md).2.2.2.2.2.2 : Nat) : Int))), (68, Pr.ex (Value.bool (!decide ((((keyUse seed ((n : Int)) ((m : Int)) md).2.2.2.2.2.2 : Nat) : Int) = ((0 : Nat) : Int))))), (69, Pr.ex (Value.bool (!decide ((((keyUse seed ((n : Int)) ((m : Int)) md).2.2.2.2.2.2 : Nat) : Int) = ((0 : Nat) : Int))))), (70, Pr.ifb (!(!decide ((((keyUse seed ((n : Int)) ((m : Int)) md).2.2.2.2.2.2 : Nat) : Int) = ((0 : Nat) : Int)))) (Pr.ex (Value.pointer (some ⟨b15, 0, none⟩)))), (71, Pr.ifb (!(!decide ((((keyUse seed ((n : Int)) ((m : Int)) md).2.2.2.2.2.2 : Nat) : Int) = ((0 : Nat) : Int)))) (Pr.ex (i64 ((keyUse seed ((n : Int)) ((m : Int)) md).2.2.2.1)))), (72, Pr.ifb (!(!decide ((((keyUse seed ((n : Int)) ((m : Int)) md).2.2.2.2.2.2 : Nat) : Int) = ((0 : Nat) : Int)))) (Pr.ex (i64 (k : Int)))), (73, Pr.ifb (!(!decide ((((keyUse seed ((n : Int)) ((m : Int)) md).2.2.2.2.2.2 : Nat) : Int) = ((0 : Nat) : Int)))) (Pr.ex (Value.bool (!decide ((keyUse seed ((n : Int)) ((m : Int)) md).2.2.2.1 = (k : Int)))))), (74, Pr.ex (Value.bool ((!decide ((((keyUse seed ((n : Int)) ((m : Int)) md).2.2.2.2.2.2 : Nat) : Int) = ((0 : Nat) : Int))) || (!decide ((keyUse seed ((n : Int)) ((m : Int)) md).2.2.2.1 = (k : Int)))))), (75, Pr.ex (Value.bool ((!decide ((((keyUse seed ((n : Int)) ((m : Int)) md).2.2.2.2.2.2 : Nat) : Int) = ((0 : Nat) : Int))) || (!decide ((keyUse seed ((n : Int)) ((m : Int)) md).2.2.2.1 = (k : Int)))))), (76, Pr.ifb (!((!decide ((((keyUse seed ((n : Int)) ((m : Int)) md).2.2.2.2.2.2 : Nat) : Int) = ((0 : Nat) : Int))) || (!decide ((keyUse seed ((n : Int)) ((m : Int)) md).2.2.2.1 = (k : Int))))) (Pr.ex (Dg.val (root (publics seed (pw n)))))), (77, Pr.ifb (!((!decide ((((keyUse seed ((n : Int)) ((m : Int)) md).2.2.2.2.2.2 : Nat) : Int) = ((0 : Nat) : Int))) || (!decide ((keyUse seed ((n : Int)) ((m : Int)) md).2.2.2.1 = (k : Int))))) (Pr.ex (x1))), (78, Pr.ifb (!((!decide ((((keyUse seed ((n : Int)) ((m : Int)) md).2.2.2.2.2.2 : Nat) : Int) = ((0 : Nat) : Int))) || (!decide ((keyUse seed ((n : Int)) ((m : Int)) md).2.2.2.1 = (k : Int))))) (Pr.ex (i64 (k : Int)))), (79, Pr.ifb (!((!decide ((((keyUse seed ((n : Int)) ((m : Int)) md).2.2.2.2.2.2 : Nat) : Int) = ((0 : Nat) : Int))) || (!decide ((keyUse seed ((n : Int)) ((m : Int)) md).2.2.2.1 = (k : Int))))) (Pr.pt' 0 (w0.heap.size + 1) [w32 (md).a, w32 (md).b, w32 (md).c, w32 (md).d])), (80, Pr.ifb (!((!decide ((((keyUse seed ((n : Int)) ((m : Int)) md).2.2.2.2.2.2 : Nat) : Int) = ((0 : Nat) : Int))) || (!decide ((keyUse seed ((n : Int)) ((m : Int)) md).2.2.2.1 = (k : Int))))) (Pr.ex (Dg.val (md)))), (81, Pr.ifb (!((!decide ((((keyUse seed ((n : Int)) ((m : Int)) md).2.2.2.2.2.2 : Nat) : Int) = ((0 : Nat) : Int))) || (!decide ((keyUse seed ((n : Int)) ((m : Int)) md).2.2.2.1 = (k : Int))))) (Pr.ex (Value.agg #[i64 ((keyUse seed ((n : Int)) ((m : Int)) md).2.2.2.1), x55_0_20, x55_1_20]))), (82, Pr.ifb (!((!decide ((((keyUse seed ((n : Int)) ((m : Int)) md).2.2.2.2.2.2 : Nat) : Int) = ((0 : Nat) : Int))) || (!decide ((keyUse seed ((n : Int)) ((m : Int)) md).2.2.2.1 = (k : Int))))) (Pr.ex (Value.bool (keyCheck (root (publics seed (pw n))) md ((keyUse seed ((n : Int)) ((m : Int)) md).2.2.2.1) ((keyUse seed ((n : Int)) ((m : Int)) md).2.2.2.2.1) ((keyUse seed ((n : Int)) ((m : Int)) md).2.2.2.2.2.1))))), (83, Pr.ifb (!((!decide ((((keyUse seed ((n : Int)) ((m : Int)) md).2.2.2.2.2.2 : Nat) : Int) = ((0 : Nat) : Int))) || (!decide ((keyUse seed ((n : Int)) ((m : Int)) md).2.2.2.1 = (k : Int))))) (Pr.ex (Value.bool (!(keyCheck (root (publics seed (pw n))) md ((keyUse seed ((n : Int)) ((m : Int)) md).2.2.2.1) ((keyUse seed ((n : Int)) ((m : Int)) md).2.2.2.2.1) ((keyUse seed ((n : Int)) ((m : Int)) md).2.2.2.2.2.1)))))), (84, Pr.ex (Value.bool (((!decide ((((keyUse seed ((n : Int)) ((m : Int)) md).2.2.2.2.2.2 : Nat) : Int) = ((0 : Nat) : Int))) || (!decide ((keyUse seed ((n : Int)) ((m : Int)) md).2.2.2.1 = (k : Int)))) || (!(keyCheck (root (publics seed (pw n))) md ((keyUse seed ((n : Int)) ((m : Int)) md).2.2.2.1) ((keyUse seed ((n : Int)) ((m : Int)) md).2.2.2.2.1) ((keyUse seed ((n : Int)) ((m : Int)) md).2.2.2.2.2.1))))))] 18 mixed N24 D24 ?_ ?_
 refine Ac ?_ (Ac ?_ (Ac ?_ (Ac ?_ (Ac ?_ (Ac ?_ (Ac ?_ (Ac ?_ (Ac ?_ (Ac ?_ (Ac ?_ (Ac ?_ (Ac ?_ (Ac ?_ (Ac ?_ (Ac ?_ (Ac ?_ (Ac ?_ (Az _))))))))))))))))))
 exact Am s16_24 rfl fun _ => rfl
 exact Ad fun aq wq _ hO hR hT => does_neq (a := (((keyUse seed ((n : Int)) ((m : Int)) md).2.2.2.2.2.2 : Nat) : Int)) (b := ((0 : Nat) : Int)) (hT 67 rfl rfl) rfl eR
 exact Ad fun aq wq _ hO hR hT => does_move (V := Value.bool (!decide ((((keyUse seed ((n : Int)) ((m : Int)) md).2.2.2.2.2.2 : Nat) : Int) = ((0 : Nat) : Int)))) (hT 68 rfl rfl) eR
 refine Ask.guarded (B := !decide ((((keyUse seed ((n : Int)) ((m : Int)) md).2.2.2.2.2.2 : Nat) : Int) = ((0 : Nat) : Int))) (want := false) (t := 69) rfl rfl rfl rfl (by decide) (fun aq wq hO hR hT => hT 69 rfl rfl) (fun hG aq wq hNq hO hR hT => ?_) (fun hno _ => fun hc => absurd (bn hc) hno)
 replace hG := nb hG
 replace hR := (Ext.drew _).trans hR
 exact does_field (o' := 0) fld_37_0 (oT hO s15_24 rfl) rfl ⟨Ext.refl _, fun _ => rfl⟩
 refine Ask.guarded (B := !decide ((((keyUse seed ((n : Int)) ((m : Int)) md).2.2.2.2.2.2 : Nat) : Int) = ((0 : Nat) : Int))) (want := false) (t := 69) rfl rfl rfl rfl (by decide) (fun aq wq hO hR hT => hT 69 rfl rfl) (fun hG aq wq hNq hO hR hT => ?_) (fun hno _ => fun hc => absurd (bn hc) hno)
 replace hG := nb hG
 replace hR := (Ext.drew _).trans hR
 exact does_loadD1 (o := 0) (V := i64 ((keyUse seed ((n : Int)) ((m : Int)) md).2.2.2.1)) (hT 70 rfl rfl hG) (B15_24.ext' hR) rfl one_3 ⟨Ext.refl _, fun _ => rfl⟩
 refine Ask.guarded (B := !decide ((((keyUse seed ((n : Int)) ((m : Int)) md).2.2.2.2.2.2 : Nat) : Int) = ((0 : Nat) : Int))) (want := false) (t := 69) rfl rfl rfl rfl (by decide) (fun aq wq hO hR hT => hT 69 rfl rfl) (fun hG aq wq hNq hO hR hT => ?_) (fun hno _ => fun hc => absurd (bn hc) hno)
 replace hG := nb hG
 replace hR := (Ext.drew _).trans hR
 exact does_move (V := i64 (k : Int)) (oT hO s13_24 rfl) ⟨Ext.refl _, fun _ => rfl⟩
 refine Ask.guarded (B := !decide ((((keyUse seed ((n : Int)) ((m : Int)) md).2.2.2.2.2.2 : Nat) : Int) = ((0 : Nat) : Int))) (want := false) (t := 69) rfl rfl rfl rfl (by decide) (fun aq wq hO hR hT => hT 69 rfl rfl) (fun hG aq wq hNq hO hR hT => ?_) (fun hno _ => fun hc => absurd (bn hc) hno)
 replace hG := nb hG
 replace hR := (Ext.drew _).trans hR
 exact does_neq (a := (keyUse seed ((n : Int)) ((m : Int)) md).2.2.2.1) (b := (k : Int)) (hT 71 rfl rfl hG) (hT 72 rfl rfl hG) ⟨Ext.refl _, fun _ => rfl⟩
 exact Ad fun aq wq _ hO hR hT => does_or (B := !decide ((((keyUse seed ((n : Int)) ((m : Int)) md).2.2.2.2.2.2 : Nat) : Int) = ((0 : Nat) : Int))) (X := !decide ((keyUse seed ((n : Int)) ((m : Int)) md).2.2.2.1 = (k : Int))) (hT 69 rfl rfl) rfl (fun hB => (hT 73 rfl rfl (nb hB))) eR
 exact Ad fun aq wq _ hO hR hT => does_move (V := Value.bool ((!decide ((((keyUse seed ((n : Int)) ((m : Int)) md).2.2.2.2.2.2 : Nat) : Int) = ((0 : Nat) : Int))) || (!decide ((keyUse seed ((n : Int)) ((m : Int)) md).2.2.2.1 = (k : Int))))) (hT 74 rfl rfl) eR
 refine Ask.guarded (B := (!decide ((((keyUse seed ((n : Int)) ((m : Int)) md).2.2.2.2.2.2 : Nat) : Int) = ((0 : Nat) : Int))) || (!decide ((keyUse seed ((n : Int)) ((m : Int)) md).2.2.2.1 = (k : Int)))) (want := false) (t := 75) rfl rfl rfl rfl (by decide) (fun aq wq hO hR hT => hT 75 rfl rfl) (fun hG aq wq hNq hO hR hT => ?_) (fun hno _ => fun hc => absurd (bn hc) hno)
 replace hG := nb hG
 replace hR := (Ext.drew _).trans hR
 exact does_loadD (o := 0) (n := 4) (mid := [w32 (root (publics seed (pw n))).a, w32 (root (publics seed (pw n))).b, w32 (root (publics seed (pw n))).c, w32 (root (publics seed (pw n))).d]) (oT hO s11_24 rfl) (B11_24.ext' hR) rfl rfl (nB rfl) row_24 rfl ⟨Ext.refl _, fun _ => rfl⟩
 refine Ask.guarded (B := (!decide ((((keyUse seed ((n : Int)) ((m : Int)) md).2.2.2.2.2.2 : Nat) : Int) = ((0 : Nat) : Int))) || (!decide ((keyUse seed ((n : Int)) ((m : Int)) md).2.2.2.1 = (k : Int)))) (want := false) (t := 75) rfl rfl rfl rfl (by decide) (fun aq wq hO hR hT => hT 75 rfl rfl) (fun hG aq wq hNq hO hR hT => ?_) (fun hno _ => fun hc => absurd (bn hc) hno)
 replace hG := nb hG
 replace hR := (Ext.drew _).trans hR
 exact does_move (V := x1) (oT hO s2_24 rfl) ⟨Ext.refl _, fun _ => rfl⟩
 refine Ask.guarded (B := (!decide ((((keyUse seed ((n : Int)) ((m : Int)) md).2.2.2.2.2.2 : Nat) : Int) = ((0 : Nat) : Int))) || (!decide ((keyUse seed ((n : Int)) ((m : Int)) md).2.2.2.1 = (k : Int)))) (want := false) (t := 75) rfl rfl rfl rfl (by decide) (fun aq wq hO hR hT => hT 75 rfl rfl) (fun hG aq wq hNq hO hR hT => ?_) (fun hno _ => fun hc => absurd (bn hc) hno)
 replace hG := nb hG
 replace hR := (Ext.drew _).trans hR
 exact does_move (V := i64 (k : Int)) (oT hO s13_24 rfl) ⟨Ext.refl _, fun _ => rfl⟩
 refine Ask.guarded (B := (!decide ((((keyUse seed ((n : Int)) ((m : Int)) md).2.2.2.2.2.2 : Nat) : Int) = ((0 : Nat) : Int))) || (!decide ((keyUse seed ((n : Int)) ((m : Int)) md).2.2.2.1 = (k : Int)))) (want := false) (t := 75) rfl rfl rfl rfl (by decide) (fun aq wq hO hR hT => hT 75 rfl rfl) (fun hG aq wq hNq hO hR hT => ?_) (fun hno _ => fun hc => absurd (bn hc) hno)
 replace hG := nb hG
 replace hR := (Ext.drew _).trans hR
 exact does_indexSl (T := DG) (xs := l) (i := (k : Int)) (X := md) sli_34 rfl (SlT.at (hT 77 rfl rfl hG) (X1_24.ext' hR)) (hT 78 rfl rfl hG) (by omega) hx (fun v h => ⟨Ext.refl _, fun _ => h⟩)
 refine Ask.guarded (B := (!decide ((((keyUse seed ((n : Int)) ((m : Int)) md).2.2.2.2.2.2 : Nat) : Int) = ((0 : Nat) : Int))) || (!decide ((keyUse seed ((n : Int)) ((m : Int)) md).2.2.2.1 = (k : Int)))) (want := false) (t := 75) rfl rfl rfl rfl (by decide) (fun aq wq hO hR hT => hT 75 rfl rfl) (fun hG aq wq hNq hO hR hT => ?_) (fun hno _ => fun hc => absurd (bn hc) hno)
 replace hG := nb hG
 replace hR := (Ext.drew _).trans hR
 exact does_loadP (cs := [w32 (md).a, w32 (md).b, w32 (md).c, w32 (md).d]) (hT 79 rfl rfl hG) row_24 rfl ⟨Ext.refl _, fun _ => rfl⟩
 refine Ask.guarded (B := (!decide ((((keyUse seed ((n : Int)) ((m : Int)) md).2.2.2.2.2.2 : Nat) : Int) = ((0 : Nat) : Int))) || (!decide ((keyUse seed ((n : Int)) ((m : Int)) md).2.2.2.1 = (k : Int)))) (want := false) (t := 75) rfl rfl rfl rfl (by decide) (fun aq wq hO hR hT => hT 75 rfl rfl) (fun hG aq wq hNq hO hR hT => ?_) (fun hno _ => fun hc => absurd (bn hc) hno)
 replace hG := nb hG
 replace hR := (Ext.drew _).trans hR
 exact does_loadD (o := 0) (n := 3) (mid := [i64 ((keyUse seed ((n : Int)) ((m : Int)) md).2.2.2.1), x55_0_20, x55_1_20]) (oT hO s15_24 rfl) (B15_24.ext' hR) rfl rfl (nB rfl) row_37 rfl ⟨Ext.refl _, fun _ => rfl⟩
 refine Ask.guarded (B := (!decide ((((keyUse seed ((n : Int)) ((m : Int)) md).2.2.2.2.2.2 : Nat) : Int) = ((0 : Nat) : Int))) || (!decide ((keyUse seed ((n : Int)) ((m : Int)) md).2.2.2.1 = (k : Int)))) (want := false) (t := 75) rfl rfl rfl rfl (by decide) (fun aq wq hO hR hT => hT 75 rfl rfl) (fun hG aq wq hNq hO hR hT => ?_) (fun hno _ => fun hc => absurd (bn hc) hno)
 replace hG := nb hG
 replace hR := (Ext.drew _).trans hR
 exact does_ret (vs := #[Dg.val (root (publics seed (pw n))), Dg.val (md), Value.agg #[i64 ((keyUse seed ((n : Int)) ((m : Int)) md).2.2.2.1), x55_0_20, x55_1_20]]) call_14 (args3 (hT 76 rfl rfl hG) (hT 80 rfl rfl hG) (hT 81 rfl rfl hG)) rfl ((keyCheck_ (root (publics seed (pw n))) md ((keyUse seed ((n : Int)) ((m : Int)) md).2.2.2.1) ((keyUse seed ((n : Int)) ((m : Int)) md).2.2.2.2.1) ((keyUse seed ((n : Int)) ((m : Int)) md).2.2.2.2.2.1) (x55_0_20) (x55_1_20) wq (hL.ext (E24.trans hR)) ((X55_0_20_24.ext' hR).wide (Nat.zero_le _) (.inl rfl)) ((X55_1_20_24.ext' hR).wide (Nat.zero_le _) (.inl rfl)) (Nat.le_trans keyUse_len.1 (by decide)) (Nat.le_trans keyUse_len.2 (by decide))).mono fun v w2 h => ⟨h.2, fun _ => h.1⟩)
 refine Ask.guarded (B := (!decide ((((keyUse seed ((n : Int)) ((m : Int)) md).2.2.2.2.2.2 : Nat) : Int) = ((0 : Nat) : Int))) || (!decide ((keyUse seed ((n : Int)) ((m : Int)) md).2.2.2.1 = (k : Int)))) (want := false) (t := 75) rfl rfl rfl rfl (by decide) (fun aq wq hO hR hT => hT 75 rfl rfl) (fun hG aq wq hNq hO hR hT => ?_) (fun hno _ => fun hc => absurd (bn hc) hno)
 replace hG := nb hG
 replace hR := (Ext.drew _).trans hR
 exact does_not (B := keyCheck (root (publics seed (pw n))) md ((keyUse seed ((n : Int)) ((m : Int)) md).2.2.2.1) ((keyUse seed ((n : Int)) ((m : Int)) md).2.2.2.2.1) ((keyUse seed ((n : Int)) ((m : Int)) md).2.2.2.2.2.1)) (hT 82 rfl rfl hG) ⟨Ext.refl _, fun _ => rfl⟩
 exact Ad fun aq wq _ hO hR hT => does_or (B := (!decide ((((keyUse seed ((n : Int)) ((m : Int)) md).2.2.2.2.2.2 : Nat) : Int) = ((0 : Nat) : Int))) || (!decide ((keyUse seed ((n : Int)) ((m : Int)) md).2.2.2.1 = (k : Int)))) (X := !(keyCheck (root (publics seed (pw n))) md ((keyUse seed ((n : Int)) ((m : Int)) md).2.2.2.1) ((keyUse seed ((n : Int)) ((m : Int)) md).2.2.2.2.1) ((keyUse seed ((n : Int)) ((m : Int)) md).2.2.2.2.2.1))) (hT 75 rfl rfl) rfl (fun hB => (hT 83 rfl rfl (nb hB))) eR
 intro a28 wd28 N28 D28 hO hR hA hU
 obtain ⟨_, _, _, _, _, _, _, _, _, _, _, _, _, _, _, _, _, t84, _⟩ := hA
 have E28 := E24.trans hR
 have s2_28 := oT hO s2_24 rfl
 have s8_28 := oT hO s8_24 rfl
 have s9_28 := oT hO s9_24 rfl
 have s11_28 := oT hO s11_24 rfl
 have s13_28 := oT hO s13_24 rfl
 have s14_28 := oT hO s14_24 rfl
 have B3_28 := B3_24.ext' hR
 have B9_28 := B9_24.ext' hR
 have B11_28 := B11_24.ext' hR
 have B14_28 := B14_24.ext' hR
 have B15_28 := B15_24.ext' hR
 have X1_28 := X1_24.ext' hR
 have X55_0_20_28 := X55_0_20_24.ext' hR
 have X55_1_20_28 := X55_1_20_24.ext' hR
 have O55_0_20_28 := O55_0_20_24.ext' hR
 have O55_1_20_28 := O55_1_20_24.ext' hR
 have s84_28 : get a28 84 = Value.bool (((!decide ((((keyUse seed ((n : Int)) ((m : Int)) md).2.2.2.2.2.2 : Nat) : Int) = ((0 : Nat) : Int))) || (!decide ((keyUse seed ((n : Int)) ((m : Int)) md).2.2.2.1 = (k : Int)))) || (!(keyCheck (root (publics seed (pw n))) md ((keyUse seed ((n : Int)) ((m : Int)) md).2.2.2.1) ((keyUse seed ((n : Int)) ((m : Int)) md).2.2.2.2.1) ((keyUse seed ((n : Int)) ((m : Int)) md).2.2.2.2.2.1)))) := t84
 clear E24 N24 D24 s2_24 s8_24 s9_24 s11_24 s13_24 s14_24 s15_24 s16_24 s59_24 B3_24 B9_24 B11_24 B14_24 B15_24 X1_24 X55_0_20_24 X55_1_20_24 O55_0_20_24 O55_1_20_24
 refine tail_nil ?_
 refine wp_if (B := ((!decide ((((keyUse seed ((n : Int)) ((m : Int)) md).2.2.2.2.2.2 : Nat) : Int) = ((0 : Nat) : Int))) || (!decide ((keyUse seed ((n : Int)) ((m : Int)) md).2.2.2.1 = (k : Int)))) || (!(keyCheck (root (publics seed (pw n))) md ((keyUse seed ((n : Int)) ((m : Int)) md).2.2.2.1) ((keyUse seed ((n : Int)) ((m : Int)) md).2.2.2.2.1) ((keyUse seed ((n : Int)) ((m : Int)) md).2.2.2.2.2.1)))) s84_28 (fun hc6 => ?_) (fun hc6 => ?_)
 rw [keyUse_ok hn4 hj] at hc6; simp [keyCheck_sign hn4 hj, hmk] at hc6; first | done | (have h9 := keyCheck_sign (seed := seed) (msg := md) hn4 hj; rw [hmk] at h9; simp [h9] at hc6)
 refine wp_skip ?_
 refine Rl [] [(85, Pr.ex (Value.agg #[w32 ((keyUse seed ((n : Int)) ((m : Int)) md).1).a, w32 ((keyUse seed ((n : Int)) ((m : Int)) md).1).b, w32 ((keyUse seed ((n : Int)) ((m : Int)) md).1).c, w32 ((keyUse seed ((n : Int)) ((m : Int)) md).1).d, i64 ((keyUse seed ((n : Int)) ((m : Int)) md).2.1), i64 ((keyUse seed ((n : Int)) ((m : Int)) md).2.2.1)]))] 1 N28 D28 ?_ ?_
 refine Ac ?_ (Az _)
 exact Ap fun aq wq _ hO hR hT => does_loadD (o := 0) (n := 6) (mid := [w32 ((keyUse seed ((n : Int)) ((m : Int)) md).1).a, w32 ((keyUse seed ((n : Int)) ((m : Int)) md).1).b, w32 ((keyUse seed ((n : Int)) ((m : Int)) md).1).c, w32 ((keyUse seed ((n : Int)) ((m : Int)) md).1).d, i64 ((keyUse seed ((n : Int)) ((m : Int)) md).2.1), i64 ((keyUse seed ((n : Int)) ((m : Int)) md).2.2.1)]) (oT hO s14_28 rfl) (B14_28.ext' hR) rfl rfl (nB rfl) row_30 rfl eR
 intro a29 wd29 N29 D29 hO hR hA hU
 obtain ⟨t85, _⟩ := hA
 have E29 := E28.trans hR
 have s2_29 := oT hO s2_28 rfl
 have s8_29 := oT hO s8_28 rfl
 have s9_29 := oT hO s9_28 rfl
 have s11_29 := oT hO s11_28 rfl
 have s13_29 := oT hO s13_28 rfl
 have B3_29 := B3_28.ext' hR
 have B9_29 := B9_28.ext' hR
 have B11_29 := B11_28.ext' hR
 have B14_29 := B14_28.ext' hR
 have B15_29 := B15_28.ext' hR
 have X1_29 := X1_28.ext' hR
 have X55_0_20_29 := X55_0_20_28.ext' hR
 have X55_1_20_29 := X55_1_20_28.ext' hR
 have O55_0_20_29 := O55_0_20_28.ext' hR
 have O55_1_20_29 := O55_1_20_28.ext' hR
 have s85_29 : get a29 85 = Value.agg #[w32 ((keyUse seed ((n : Int)) ((m : Int)) md).1).a, w32 ((keyUse seed ((n : Int)) ((m : Int)) md).1).b, w32 ((keyUse seed ((n : Int)) ((m : Int)) md).1).c, w32 ((keyUse seed ((n : Int)) ((m : Int)) md).1).d, i64 ((keyUse seed ((n : Int)) ((m : Int)) md).2.1), i64 ((keyUse seed ((n : Int)) ((m : Int)) md).2.2.1)] := t85
 clear E28 N28 D28 s2_28 s8_28 s9_28 s11_28 s13_28 s14_28 s84_28 B3_28 B9_28 B11_28 B14_28 B15_28 X1_28 X55_0_20_28 X55_1_20_28 O55_0_20_28 O55_1_20_28
 refine tail_none rfl rfl (does_storeD (o := 0) (n := 6) (cs' := [w32 ((keyUse seed ((n : Int)) ((m : Int)) md).1).a, w32 ((keyUse seed ((n : Int)) ((m : Int)) md).1).b, w32 ((keyUse seed ((n : Int)) ((m : Int)) md).1).c, w32 ((keyUse seed ((n : Int)) ((m : Int)) md).1).d, i64 ((keyUse seed ((n : Int)) ((m : Int)) md).2.1), i64 ((keyUse seed ((n : Int)) ((m : Int)) md).2.2.1)]) (V := Value.agg #[w32 ((keyUse seed ((n : Int)) ((m : Int)) md).1).a, w32 ((keyUse seed ((n : Int)) ((m : Int)) md).1).b, w32 ((keyUse seed ((n : Int)) ((m : Int)) md).1).c, w32 ((keyUse seed ((n : Int)) ((m : Int)) md).1).d, i64 ((keyUse seed ((n : Int)) ((m : Int)) md).2.1), i64 ((keyUse seed ((n : Int)) ((m : Int)) md).2.2.1)]) s9_29 s85_29 B9_29 (nB rfl) rfl siz_30 rfl rfl (fun wd30 hX hz B9_30 => ?_))
 have E30 := E29.since hX (fun k e => e ▸ fr_b9)
 have B3_30 := B3_29.ext hX ne_b3_b9
 have B11_30 := B11_29.ext hX ne_b9_b11.symm
 have B14_30 := B14_29.ext hX ne_b9_b14.symm
 have B15_30 := B15_29.ext hX ne_b9_b15.symm
 have X1_30 := SlT.over X1_29 hX nb_x1_b9
 have X55_0_20_30 := SlT.over X55_0_20_29 hX (fun _ => nbo_x55_0_20_b9)
 have X55_1_20_30 := SlT.over X55_1_20_29 hX (fun _ => nbo_x55_1_20_b9)
 have O55_0_20_30 := OwnT.ext O55_0_20_29 hX (fun k hk e => nbo_x55_0_20_b9 (e ▸ hk))
 have O55_1_20_30 := OwnT.ext O55_1_20_29 hX (fun k hk e => nbo_x55_1_20_b9 (e ▸ hk))
 clear hX hz E29 B3_29 B9_29 B11_29 B14_29 B15_29 X1_29 X55_0_20_29 X55_1_20_29 O55_0_20_29 O55_1_20_29
 refine tail_nil ?_
 refine Rl [] [(45, Pr.ex (i64 (k : Int))), (46, Pr.ex (i64 ((k + 1 : Nat) : Int)))] 2 N29 D29 ?_ ?_
 refine Ac ?_ (Ac ?_ (Az _))
 exact Am s13_29 rfl fun _ => rfl
 exact Ap fun aq wq _ hO hR hT => does_add (a := (k : Int)) (b := ((1 : Nat) : Int)) (r := ((k + 1 : Nat) : Int)) (hT 45 rfl rfl) rfl (by omega) (by omega) (by omega) eR
 intro a31 wd31 N31 D31 hO hR hA hU
 obtain ⟨_, t46, _⟩ := hA
 have E31 := E30.trans hR
 have s2_31 := oT hO s2_29 rfl
 have s8_31 := oT hO s8_29 rfl
 have s9_31 := oT hO s9_29 rfl
 have s11_31 := oT hO s11_29 rfl
 have s13_31 := oT hO s13_29 rfl
 have B3_31 := B3_30.ext' hR
 have B9_31 := B9_30.ext' hR
 have B11_31 := B11_30.ext' hR
 have B14_31 := B14_30.ext' hR
 have B15_31 := B15_30.ext' hR
 have X1_31 := X1_30.ext' hR
 have X55_0_20_31 := X55_0_20_30.ext' hR
 have X55_1_20_31 := X55_1_20_30.ext' hR
 have O55_0_20_31 := O55_0_20_30.ext' hR
 have O55_1_20_31 := O55_1_20_30.ext' hR
 have s46_31 : get a31 46 = i64 ((k + 1 : Nat) : Int) := t46
 clear E30 N29 D29 s2_29 s8_29 s9_29 s11_29 s13_29 s85_29 B3_30 B9_30 B11_30 B14_30 B15_30 X1_30 X55_0_20_30 X55_1_20_30 O55_0_20_30 O55_1_20_30
 refine tail_put rfl rfl N31 D31 (by decide) (does_assign (V := i64 ((k + 1 : Nat) : Int)) s46_31 (fun a32 N32 D32 hv hO => ?_))
 have s13_32 := hv
 have s2_32 := oT hO s2_31 rfl
 have s8_32 := oT hO s8_31 rfl
 have s9_32 := oT hO s9_31 rfl
 have s11_32 := oT hO s11_31 rfl
 clear hO hv N31 D31 s2_31 s8_31 s9_31 s11_31 s46_31 s13_31
 refine tail_nil ?_
 exact ⟨_, by omega, k + 1, m + 1, rfl, N32, D32, s2_32, s8_32, s9_32, s11_32, s13_32, E31, B3_31, (by have h := B9_31; rw [keyUse_ok hn4 hj] at h; exact h), B11_31, X1_31, by omega, by omega⟩
 have hc3 := of_decide_eq_false hc3
 refine wp_exit ?_
 refine wp_seq ?_
 refine Rl [] [(6, Pr.ex (Value.bool (true)))] 1 N19 D19 ?_ ?_
 refine Ac ?_ (Az _)
 exact Ap fun aq wq _ hO hR hT => does_assign (V := Value.bool (true)) rfl eR
 intro a33 wd33 N33 D33 hO hR hA hU
 obtain ⟨t6, _⟩ := hA
 have E33 := E19.trans hR
 have B3_33 := B3_19.ext' hR
 have B9_33 := B9_19.ext' hR
 have B11_33 := B11_19.ext' hR
 have X1_33 := X1_19.ext' hR
 have s6_33 : get a33 6 = Value.bool (true) := t6
 clear E19 N19 D19 s2_19 s8_19 s9_19 s11_19 s13_19 s44_19 B3_19 B9_19 B11_19 X1_19
 refine tail_nil ?_
 refine wp_ret ?_
 refine res_one (V := Value.bool (true)) rfl D33 s6_33 ?_
 exact ⟨rfl, E33⟩
 refine wp_skip ?_
 refine wp_seq ?_
 obtain ⟨n, hn1, hs7, hs8⟩ : ∃ n : Nat, n ≤ 1 ∧ get a7 7 = i64 (n : Int) ∧ get a7 8 = i64 ((pw n : Nat) : Int) := ⟨0, by decide, s7_7, s8_7⟩
 replace s7_7 := hs7
 replace s8_7 := hs8
 clear hs7 hs8
 have hn4 : n ≤ 4 := by omega
 have hp16 := pw_small hn4
 refine Rl [9] [(24, Pr.ex (Dg.val (seed))), (25, Pr.ex (i64 (n : Int))), (26, Pr.ex (Value.tuple #[Value.agg #[w32 (seed).a, w32 (seed).b, w32 (seed).c, w32 (seed).d, i64 (n : Int), i64 ((0 : Nat) : Int)], i64 ((0 : Nat) : Int)])), (23, Pr.ex (Value.tuple #[Value.agg #[w32 (seed).a, w32 (seed).b, w32 (seed).c, w32 (seed).d, i64 (n : Int), i64 ((0 : Nat) : Int)], i64 ((0 : Nat) : Int)])), (27, Pr.ex (Value.agg #[w32 (seed).a, w32 (seed).b, w32 (seed).c, w32 (seed).d, i64 (n : Int), i64 ((0 : Nat) : Int)])), (28, Pr.ex (i64 ((0 : Nat) : Int))), (9, Pr.box' wd7.heap.size 30 [w32 (Dg.zero).a, w32 (Dg.zero).b, w32 (Dg.zero).c, w32 (Dg.zero).d, i64 ((0 : Nat) : Int), i64 ((0 : Nat) : Int)])] 7 N7 D7 ?_ ?_
 refine Ac ?_ (Ac ?_ (Ac ?_ (Ac ?_ (Ac ?_ (Ac ?_ (Ac ?_ (Az _)))))))
 exact Ap fun aq wq _ hO hR hT => does_loadD (o := 0) (n := 4) (mid := [w32 (seed).a, w32 (seed).b, w32 (seed).c, w32 (seed).d]) (oT hO s3_7 rfl) (B3_7.ext' hR) rfl rfl (nB rfl) row_24 rfl eR
 exact Am s7_7 rfl fun _ => rfl
 exact Ap fun aq wq _ hO hR hT => does_ret (vs := #[Dg.val (seed), i64 (n : Int)]) call_10 (args2 (hT 24 rfl rfl) (hT 25 rfl rfl)) rfl ((keyNew_k seed n wq hn4).mono fun v w2 h => ⟨h.2, h.1⟩)
 exact Ap fun aq wq _ hO hR hT => does_move (V := Value.tuple #[Value.agg #[w32 (seed).a, w32 (seed).b, w32 (seed).c, w32 (seed).d, i64 (n : Int), i64 ((0 : Nat) : Int)], i64 ((0 : Nat) : Int)]) (hT 26 rfl rfl) eR
 exact Ap fun aq wq _ hO hR hT => does_extract (V := Value.agg #[w32 (seed).a, w32 (seed).b, w32 (seed).c, w32 (seed).d, i64 (n : Int), i64 ((0 : Nat) : Int)]) (hT 23 rfl rfl) rfl eR
 exact Ap fun aq wq _ hO hR hT => does_extract (V := i64 ((0 : Nat) : Int)) (hT 23 rfl rfl) rfl eR
 refine Ask.fresh rfl rfl ?_
 intro aq wq hNq hO hR hT
 exact does_alloc zero_30 (fun b w2 he hlo hb => ⟨he, ⟨b, rfl, Nat.le_trans hR.size' hlo, hb⟩, ⟨b, rfl, hlo, hb.lt⟩⟩)
 intro a34 wd34 N34 D34 hO hR hA hU
 obtain ⟨_, _, _, _, t27, t28, t9, _⟩ := hA
 have E34 := E7.trans hR
 have s2_34 := oT hO s2_7 rfl
 have s3_34 := oT hO s3_7 rfl
 have s7_34 := oT hO s7_7 rfl
 have s8_34 := oT hO s8_7 rfl
 have B3_34 := B3_7.ext' hR
 have X1_34 := X1_7.ext' hR
 have s27_34 : get a34 27 = Value.agg #[w32 (seed).a, w32 (seed).b, w32 (seed).c, w32 (seed).d, i64 (n : Int), i64 ((0 : Nat) : Int)] := t27
 have s28_34 : get a34 28 = i64 ((0 : Nat) : Int) := t28
 obtain ⟨b9, s9_34, lo_b9, B9_34⟩ := t9
 have ne_b3_b9 := Hl B3_7 lo_b9
 have nb_x1_b9 := SlT.old X1_7 lo_b9
 have fr_b9 : w0.heap.size ≤ b9 := Nat.le_trans E7.size' lo_b9
 clear E7 N7 D7 s2_7 s3_7 s7_7 s8_7 s22_7 B3_7 X1_7
 refine tail_none rfl rfl (does_storeD (o := 0) (n := 6) (cs' := [w32 (seed).a, w32 (seed).b, w32 (seed).c, w32 (seed).d, i64 (n : Int), i64 ((0 : Nat) : Int)]) (V := Value.agg #[w32 (seed).a, w32 (seed).b, w32 (seed).c, w32 (seed).d, i64 (n : Int), i64 ((0 : Nat) : Int)]) s9_34 s27_34 B9_34 (nB rfl) rfl siz_30 rfl rfl (fun wd35 hX hz B9_35 => ?_))
 have E35 := E34.since hX (fun k e => e ▸ fr_b9)
 have B3_35 := B3_34.ext hX ne_b3_b9
 have X1_35 := SlT.over X1_34 hX nb_x1_b9
 clear hX hz E34 B3_34 B9_34 X1_34
 refine tail_put rfl rfl N34 D34 (by decide) (does_assign (V := i64 ((0 : Nat) : Int)) s28_34 (fun a36 N36 D36 hv hO => ?_))
 have s10_36 := hv
 have s2_36 := oT hO s2_34 rfl
 have s3_36 := oT hO s3_34 rfl
 have s7_36 := oT hO s7_34 rfl
 have s8_36 := oT hO s8_34 rfl
 have s9_36 := oT hO s9_34 rfl
 clear hO hv N34 D34 s2_34 s3_34 s7_34 s8_34 s9_34 s27_34 s28_34
 refine tail_nil ?_
 refine wp_seq ?_
 refine Rl [11] [(30, Pr.ex (Dg.val (seed))), (31, Pr.ex (i64 (n : Int))), (32, Pr.ex (Value.tuple #[Dg.val (root (publics seed (pw n))), i64 ((0 : Nat) : Int)])), (29, Pr.ex (Value.tuple #[Dg.val (root (publics seed (pw n))), i64 ((0 : Nat) : Int)])), (33, Pr.ex (Dg.val (root (publics seed (pw n))))), (34, Pr.ex (i64 ((0 : Nat) : Int))), (11, Pr.box' wd35.heap.size 24 [w32 (Dg.zero).a, w32 (Dg.zero).b, w32 (Dg.zero).c, w32 (Dg.zero).d])] 7 N36 D36 ?_ ?_
 refine Ac ?_ (Ac ?_ (Ac ?_ (Ac ?_ (Ac ?_ (Ac ?_ (Ac ?_ (Az _)))))))
 exact Ap fun aq wq _ hO hR hT => does_loadD (o := 0) (n := 4) (mid := [w32 (seed).a, w32 (seed).b, w32 (seed).c, w32 (seed).d]) (oT hO s3_36 rfl) (B3_35.ext' hR) rfl rfl (nB rfl) row_24 rfl eR
 exact Am s7_36 rfl fun _ => rfl
 exact Ap fun aq wq _ hO hR hT => does_ret (vs := #[Dg.val (seed), i64 (n : Int)]) call_8 (args2 (hT 30 rfl rfl) (hT 31 rfl rfl)) rfl ((keyPub_k seed n wq (hL.ext (E35.trans hR)) hn4).mono fun v w2 h => ⟨h.2, h.1⟩)
 exact Ap fun aq wq _ hO hR hT => does_move (V := Value.tuple #[Dg.val (root (publics seed (pw n))), i64 ((0 : Nat) : Int)]) (hT 32 rfl rfl) eR
 exact Ap fun aq wq _ hO hR hT => does_extract (V := Dg.val (root (publics seed (pw n)))) (hT 29 rfl rfl) rfl eR
 exact Ap fun aq wq _ hO hR hT => does_extract (V := i64 ((0 : Nat) : Int)) (hT 29 rfl rfl) rfl eR
 refine Ask.fresh rfl rfl ?_
 intro aq wq hNq hO hR hT
 exact does_alloc zero_24 (fun b w2 he hlo hb => ⟨he, ⟨b, rfl, Nat.le_trans hR.size' hlo, hb⟩, ⟨b, rfl, hlo, hb.lt⟩⟩)
 intro a37 wd37 N37 D37 hO hR hA hU
 obtain ⟨_, _, _, _, t33, t34, t11, _⟩ := hA
 have E37 := E35.trans hR
 have s2_37 := oT hO s2_36 rfl
 have s8_37 := oT hO s8_36 rfl
 have s9_37 := oT hO s9_36 rfl
 have s10_37 := oT hO s10_36 rfl
 have B3_37 := B3_35.ext' hR
 have B9_37 := B9_35.ext' hR
 have X1_37 := X1_35.ext' hR
 have s33_37 : get a37 33 = Dg.val (root (publics seed (pw n))) := t33
 have s34_37 : get a37 34 = i64 ((0 : Nat) : Int) := t34
 obtain ⟨b11, s11_37, lo_b11, B11_37⟩ := t11
 have ne_b3_b11 := Hl B3_35 lo_b11
 have ne_b9_b11 := Hl B9_35 lo_b11
 have nb_x1_b11 := SlT.old X1_35 lo_b11
 have fr_b11 : w0.heap.size ≤ b11 := Nat.le_trans E35.size' lo_b11
 clear E35 N36 D36 s2_36 s3_36 s7_36 s8_36 s9_36 s10_36 B3_35 B9_35 X1_35
 refine tail_none rfl rfl (does_storeD (o := 0) (n := 4) (cs' := [w32 (root (publics seed (pw n))).a, w32 (root (publics seed (pw n))).b, w32 (root (publics seed (pw n))).c, w32 (root (publics seed (pw n))).d]) (V := Dg.val (root (publics seed (pw n)))) s11_37 s33_37 B11_37 (nB rfl) rfl siz_24 rfl rfl (fun wd38 hX hz B11_38 => ?_))
 have E38 := E37.since hX (fun k e => e ▸ fr_b11)
 have B3_38 := B3_37.ext hX ne_b3_b11
 have B9_38 := B9_37.ext hX ne_b9_b11
 have X1_38 := SlT.over X1_37 hX nb_x1_b11
 clear hX hz E37 B3_37 B9_37 B11_37 X1_37
 refine tail_put rfl rfl N37 D37 (by decide) (does_assign (V := i64 ((0 : Nat) : Int)) s34_37 (fun a39 N39 D39 hv hO => ?_))
 have s12_39 := hv
 have s2_39 := oT hO s2_37 rfl
 have s8_39 := oT hO s8_37 rfl
 have s9_39 := oT hO s9_37 rfl
 have s10_39 := oT hO s10_37 rfl
 have s11_39 := oT hO s11_37 rfl
 clear hO hv N37 D37 s2_37 s8_37 s9_37 s10_37 s11_37 s33_37 s34_37
 refine tail_nil ?_
 refine wp_seq ?_
 refine wp_seq ?_
 refine Rl [] [(35, Pr.ex (i64 ((0 : Nat) : Int))), (36, Pr.ex (Value.bool (false))), (37, Pr.ex (Value.bool (false))), (38, Pr.ifb (!false) (Pr.ex (i64 ((0 : Nat) : Int)))), (39, Pr.ifb (!false) (Pr.ex (Value.bool (false)))), (40, Pr.ex (Value.bool (false || false)))] 6 N39 D39 ?_ ?_
 refine Ac ?_ (Ac ?_ (Ac ?_ (Ac ?_ (Ac ?_ (Ac ?_ (Az _))))))
 exact Am s10_39 rfl fun _ => rfl
 exact Ap fun aq wq _ hO hR hT => does_neq (a := ((0 : Nat) : Int)) (b := ((0 : Nat) : Int)) (hT 35 rfl rfl) rfl eR
 exact Ap fun aq wq _ hO hR hT => does_move (V := Value.bool (false)) (hT 36 rfl rfl) eR
 refine Ask.guarded (B := false) (want := false) (t := 37) rfl rfl rfl rfl (by decide) (fun aq wq hO hR hT => hT 37 rfl rfl) (fun hG aq wq hNq hO hR hT => ?_) (fun hno _ => fun hc => absurd (bn hc) hno)
 replace hG := nb hG
 exact does_move (V := i64 ((0 : Nat) : Int)) (oT hO s12_39 rfl) ⟨Ext.refl _, fun _ => rfl⟩
 refine Ask.guarded (B := false) (want := false) (t := 37) rfl rfl rfl rfl (by decide) (fun aq wq hO hR hT => hT 37 rfl rfl) (fun hG aq wq hNq hO hR hT => ?_) (fun hno _ => fun hc => absurd (bn hc) hno)
 replace hG := nb hG
 exact does_neq (a := ((0 : Nat) : Int)) (b := ((0 : Nat) : Int)) (hT 38 rfl rfl hG) rfl ⟨Ext.refl _, fun _ => rfl⟩
 exact Ap fun aq wq _ hO hR hT => does_or (B := false) (X := false) (hT 37 rfl rfl) rfl (fun hB => (hT 39 rfl rfl (nb hB))) eR
 intro a40 wd40 N40 D40 hO hR hA hU
 obtain ⟨_, _, _, _, _, t40, _⟩ := hA
 have E40 := E38.trans hR
 have s2_40 := oT hO s2_39 rfl
 have s8_40 := oT hO s8_39 rfl
 have s9_40 := oT hO s9_39 rfl
 have s11_40 := oT hO s11_39 rfl
 have B3_40 := B3_38.ext' hR
 have B9_40 := B9_38.ext' hR
 have B11_40 := B11_38.ext' hR
 have X1_40 := X1_38.ext' hR
 have s40_40 : get a40 40 = Value.bool (false || false) := t40
 clear E38 N39 D39 s2_39 s8_39 s9_39 s10_39 s11_39 s12_39 B3_38 B9_38 B11_38 X1_38
 refine tail_nil ?_
 refine wp_if (B := false || false) s40_40 (fun hc7 => ?_) (fun hc7 => ?_)
 simp at hc7
 refine wp_skip ?_
 refine wp_seq ?_
 refine wp_seq ?_
 refine Rl [] [(13, Pr.ex (i64 ((0 : Nat) : Int)))] 1 N40 D40 ?_ ?_
 refine Ac ?_ (Az _)
 exact Ap fun aq wq _ hO hR hT => does_assign (V := i64 ((0 : Nat) : Int)) rfl eR
 intro a41 wd41 N41 D41 hO hR hA hU
 obtain ⟨t13, _⟩ := hA
 have E41 := E40.trans hR
 have s2_41 := oT hO s2_40 rfl
 have s8_41 := oT hO s8_40 rfl
 have s9_41 := oT hO s9_40 rfl
 have s11_41 := oT hO s11_40 rfl
 have B3_41 := B3_40.ext' hR
 have B9_41 := B9_40.ext' hR
 have B11_41 := B11_40.ext' hR
 have X1_41 := X1_40.ext' hR
 have s13_41 : get a41 13 = i64 ((0 : Nat) : Int) := t13
 clear E40 N40 D40 s2_40 s8_40 s9_40 s11_40 s40_40 B3_40 B9_40 B11_40 X1_40
 refine tail_nil ?_
 refine wp_block ?_
 refine loop_g (fun mz az wz => ∃ k : Nat, ∃ m : Nat, mz = l.length - k ∧ (az.tmps.size = 86) ∧ (az.defers = []) ∧ (get az 2 = x1) ∧ (get az 8 = i64 ((pw n : Nat) : Int)) ∧ (get az 9 = Value.pointer (some ⟨b9, 0, none⟩)) ∧ (get az 11 = Value.pointer (some ⟨b11, 0, none⟩)) ∧ (get az 13 = i64 (k : Int)) ∧ (Ext w0 wz) ∧ (Has wz b3 24 [w32 (seed).a, w32 (seed).b, w32 (seed).c, w32 (seed).d]) ∧ (Has wz b9 30 [w32 (seed).a, w32 (seed).b, w32 (seed).c, w32 (seed).d, i64 (n : Int), i64 (m : Int)]) ∧ (Has wz b11 24 [w32 (root (publics seed (pw n))).a, w32 (root (publics seed (pw n))).b, w32 (root (publics seed (pw n))).c, w32 (root (publics seed (pw n))).d]) ∧ (SlT DG 0 (w0.heap.size + 1) (l) x1 wz) ∧ (k ≤ l.length) ∧ (m = min k (pw n))) ?_ ?_
 exact ⟨_, 0, 0, rfl, N41, D41, s2_41, s8_41, s9_41, s11_41, s13_41, E41, B3_41, B9_41, B11_41, X1_41, Nat.zero_le _, (Nat.zero_min _).symm⟩
 rintro mz a42 wd42 ⟨k, m, rfl, N42, D42, s2_42, s8_42, s9_42, s11_42, s13_42, E42, B3_42, B9_42, B11_42, X1_42, hk, hm⟩
 refine wp_seq ?_
 refine wp_seq ?_
 refine Rl [] [(41, Pr.ex (i64 (k : Int))), (42, Pr.ex (x1)), (43, Pr.ex (i64 (l.length : Int))), (44, Pr.ex (Value.bool (decide ((k : Int) < (l.length : Int)))))] 4 N42 D42 ?_ ?_
 refine Ac ?_ (Ac ?_ (Ac ?_ (Ac ?_ (Az _))))
 exact Am s13_42 rfl fun _ => rfl
 exact Am s2_42 rfl fun _ => rfl
 exact Ap fun aq wq _ hO hR hT => does_len (T := DG) (xs := l) sli_34 (SlT.at (hT 42 rfl rfl) (X1_42.ext' hR)) eR
 exact Ap fun aq wq _ hO hR hT => does_lss (a := (k : Int)) (b := (l.length : Int)) (hT 41 rfl rfl) (hT 43 rfl rfl) eR
 intro a43 wd43 N43 D43 hO hR hA hU
 obtain ⟨_, _, _, t44, _⟩ := hA
 have E43 := E42.trans hR
 have s2_43 := oT hO s2_42 rfl
 have s8_43 := oT hO s8_42 rfl
 have s9_43 := oT hO s9_42 rfl
 have s11_43 := oT hO s11_42 rfl
 have s13_43 := oT hO s13_42 rfl
 have B3_43 := B3_42.ext' hR
 have B9_43 := B9_42.ext' hR
 have B11_43 := B11_42.ext' hR
 have X1_43 := X1_42.ext' hR
 have s44_43 : get a43 44 = Value.bool (decide ((k : Int) < (l.length : Int))) := t44
 clear E42 N42 D42 s2_42 s8_42 s9_42 s11_42 s13_42 B3_42 B9_42 B11_42 X1_42
 refine tail_nil ?_
 refine wp_if (B := decide ((k : Int) < (l.length : Int))) s44_43 (fun hc8 => ?_) (fun hc8 => ?_)
 have hc8 := of_decide_eq_true hc8
 obtain ⟨md, hx⟩ := get_of_lt (l := l) (k := k) (by omega)
 refine wp_skip ?_
 refine wp_seq ?_
 refine wp_block ?_
 refine wp_seq ?_
 refine region_late [14, 15] [(48, Pr.ex (Value.agg #[w32 (seed).a, w32 (seed).b, w32 (seed).c, w32 (seed).d, i64 (n : Int), i64 (m : Int)])), (49, Pr.ex (x1)), (50, Pr.ex (i64 (k : Int))), (51, Pr.pt' 0 (w0.heap.size + 1) [w32 (md).a, w32 (md).b, w32 (md).c, w32 (md).d]), (52, Pr.ex (Dg.val (md))), (53, Pr.t3 (Pr.ex (Value.agg #[w32 ((keyUse seed ((n : Int)) ((m : Int)) md).1).a, w32 ((keyUse seed ((n : Int)) ((m : Int)) md).1).b, w32 ((keyUse seed ((n : Int)) ((m : Int)) md).1).c, w32 ((keyUse seed ((n : Int)) ((m : Int)) md).1).d, i64 ((keyUse seed ((n : Int)) ((m : Int)) md).2.1), i64 ((keyUse seed ((n : Int)) ((m : Int)) md).2.2.1)])) (Pr.ag2 (fun x y => Value.agg #[i64 ((keyUse seed ((n : Int)) ((m : Int)) md).2.2.2.1), x, y]) (Pr.own' DG wd43.heap.size 24 ((keyUse seed ((n : Int)) ((m : Int)) md).2.2.2.2.1)) (Pr.own' DG wd43.heap.size 24 ((keyUse seed ((n : Int)) ((m : Int)) md).2.2.2.2.2.1))) (Pr.ex (i64 (((keyUse seed ((n : Int)) ((m : Int)) md).2.2.2.2.2.2 : Nat) : Int)))), (47, Pr.t3 (Pr.ex (Value.agg #[w32 ((keyUse seed ((n : Int)) ((m : Int)) md).1).a, w32 ((keyUse seed ((n : Int)) ((m : Int)) md).1).b, w32 ((keyUse seed ((n : Int)) ((m : Int)) md).1).c, w32 ((keyUse seed ((n : Int)) ((m : Int)) md).1).d, i64 ((keyUse seed ((n : Int)) ((m : Int)) md).2.1), i64 ((keyUse seed ((n : Int)) ((m : Int)) md).2.2.1)])) (Pr.ag2 (fun x y => Value.agg #[i64 ((keyUse seed ((n : Int)) ((m : Int)) md).2.2.2.1), x, y]) (Pr.own' DG wd43.heap.size 24 ((keyUse seed ((n : Int)) ((m : Int)) md).2.2.2.2.1)) (Pr.own' DG wd43.heap.size 24 ((keyUse seed ((n : Int)) ((m : Int)) md).2.2.2.2.2.1))) (Pr.ex (i64 (((keyUse seed ((n : Int)) ((m : Int)) md).2.2.2.2.2.2 : Nat) : Int)))), (54, Pr.ex (Value.agg #[w32 ((keyUse seed ((n : Int)) ((m : Int)) md).1).a, w32 ((keyUse seed ((n : Int)) ((m : Int)) md).1).b, w32 ((keyUse seed ((n : Int)) ((m : Int)) md).1).c, w32 ((keyUse seed ((n : Int)) ((m : Int)) md).1).d, i64 ((keyUse seed ((n : Int)) ((m : Int)) md).2.1), i64 ((keyUse seed ((n : Int)) ((m : Int)) md).2.2.1)])), (55, Pr.ag2 (fun x y => Value.agg #[i64 ((keyUse seed ((n : Int)) ((m : Int)) md).2.2.2.1), x, y]) (Pr.own' DG wd43.heap.size 24 ((keyUse seed ((n : Int)) ((m : Int)) md).2.2.2.2.1)) (Pr.own' DG wd43.heap.size 24 ((keyUse seed ((n : Int)) ((m : Int)) md).2.2.2.2.2.1))), (56, Pr.ex (i64 (((keyUse seed ((n : Int)) ((m : Int)) md).2.2.2.2.2.2 : Nat) : Int))), (14, Pr.box' wd43.heap.size 30 [w32 (Dg.zero).a, w32 (Dg.zero).b, w32 (Dg.zero).c, w32 (Dg.zero).d, i64 ((0 : Nat) : Int), i64 ((0 : Nat) : Int)]), (15, Pr.box' wd43.heap.size 37 [i64 ((0 : Nat) : Int), Value.slice none 0 0, Value.slice none 0 0])] 12 [8, 9] (fun k => wd43.heap.size ≤ k) mixed N43 D43 (by kernel_rfl) (by kernel_rfl) (by kernel_rfl) (by kernel_rfl) (fun d v c a w h => by cases d <;> exact h) ?_ ?_ ?_
 refine Ac ?_ (Ac ?_ (Ac ?_ (Ac ?_ (Ac ?_ (Ac ?_ (Ac ?_ (Ac ?_ (Ac ?_ (Ac ?_ (Ac ?_ (Ac ?_ (Az _))))))))))))
 exact Ad fun aq wq _ hO hR hT => does_loadD (o := 0) (n := 6) (mid := [w32 (seed).a, w32 (seed).b, w32 (seed).c, w32 (seed).d, i64 (n : Int), i64 (m : Int)]) (oT hO s9_43 rfl) (B9_43.ext' hR) rfl rfl (nB rfl) row_30 rfl eR
 exact Am s2_43 rfl fun _ => rfl
 exact Am s13_43 rfl fun _ => rfl
 exact Ad fun aq wq _ hO hR hT => does_indexSl (T := DG) (xs := l) (i := (k : Int)) (X := md) sli_34 rfl (SlT.at (hT 49 rfl rfl) (X1_43.ext' hR)) (hT 50 rfl rfl) (by omega) hx (fun v h => ⟨Ext.refl _, h⟩)
 exact Ad fun aq wq _ hO hR hT => does_loadP (cs := [w32 (md).a, w32 (md).b, w32 (md).c, w32 (md).d]) (hT 51 rfl rfl) row_24 rfl eR
 exact Ad fun aq wq _ hO hR hT => does_ret (vs := #[Value.agg #[w32 (seed).a, w32 (seed).b, w32 (seed).c, w32 (seed).d, i64 (n : Int), i64 (m : Int)], Dg.val (md)]) call_11 (args2 (hT 48 rfl rfl) (hT 52 rfl rfl)) rfl ((keyUse_ seed ((n : Int)) ((m : Int)) md wq (hL.ext (E43.trans hR))).mono fun v w2 h => ⟨h.2, by obtain ⟨x0, x1, x2, hv, k0, k1, k2⟩ := h.1; exact ⟨x0, x1, x2, hv, k0, (by obtain ⟨z0, z1, hz, kz0, kz1⟩ := k1; exact ⟨z0, z1, hz, OwnT.base kz0 hR.size', OwnT.base kz1 hR.size'⟩), k2⟩⟩)
 exact Ad fun aq wq _ hO hR hT => does_move rfl ⟨Ext.refl _, (hT 53 rfl rfl)⟩
 exact Ad fun aq wq _ hO hR hT => by
  obtain ⟨x0, x1, x2, hv, k0, k1, k2⟩ := (hT 47 rfl rfl)
  exact does_extract (V := Value.agg #[w32 ((keyUse seed ((n : Int)) ((m : Int)) md).1).a, w32 ((keyUse seed ((n : Int)) ((m : Int)) md).1).b, w32 ((keyUse seed ((n : Int)) ((m : Int)) md).1).c, w32 ((keyUse seed ((n : Int)) ((m : Int)) md).1).d, i64 ((keyUse seed ((n : Int)) ((m : Int)) md).2.1), i64 ((keyUse seed ((n : Int)) ((m : Int)) md).2.2.1)]) hv (by rw [show x0 = Value.agg #[w32 ((keyUse seed ((n : Int)) ((m : Int)) md).1).a, w32 ((keyUse seed ((n : Int)) ((m : Int)) md).1).b, w32 ((keyUse seed ((n : Int)) ((m : Int)) md).1).c, w32 ((keyUse seed ((n : Int)) ((m : Int)) md).1).d, i64 ((keyUse seed ((n : Int)) ((m : Int)) md).2.1), i64 ((keyUse seed ((n : Int)) ((m : Int)) md).2.2.1)] from k0]; rfl) ⟨Ext.refl _, rfl⟩
 exact Ad fun aq wq _ hO hR hT => by
  obtain ⟨x0, x1, x2, hv, k0, k1, k2⟩ := (hT 47 rfl rfl)
  exact does_extract hv rfl ⟨Ext.refl _, k1⟩
 exact Ad fun aq wq _ hO hR hT => by
  obtain ⟨x0, x1, x2, hv, k0, k1, k2⟩ := (hT 47 rfl rfl)
  exact does_extract (V := i64 (((keyUse seed ((n : Int)) ((m : Int)) md).2.2.2.2.2.2 : Nat) : Int)) hv (by rw [show x2 = i64 (((keyUse seed ((n : Int)) ((m : Int)) md).2.2.2.2.2.2 : Nat) : Int) from k2]; rfl) ⟨Ext.refl _, rfl⟩
 refine Ask.fresh rfl rfl ?_
 intro aq wq hNq hO hR hT
 replace hR := (Ext.drew _).trans hR
 exact does_alloc zero_30 (fun b w2 he hlo hb => ⟨he, ⟨b, rfl, Nat.le_trans hR.size' hlo, hb⟩, ⟨b, rfl, hlo, hb.lt⟩⟩)
 refine Ask.fresh rfl rfl ?_
 intro aq wq hNq hO hR hT
 replace hR := (Ext.drew _).trans hR
 exact does_alloc zero_37 (fun b w2 he hlo hb => ⟨he, ⟨b, rfl, Nat.le_trans hR.size' hlo, hb⟩, ⟨b, rfl, hlo, hb.lt⟩⟩)
 refine LateAsks.cons rfl rfl rfl ?_ (LateAsks.cons rfl rfl rfl ?_ LateAsks.nil)
 intro aq wq hO hR hT
 have hR0 := hR
 replace hR := (Ext.drew _).trans hR
 obtain ⟨x0, x1, x2, hv, k0, k1, k2⟩ := (hT 47 rfl rfl)
 exact ⟨_, yl_extract hv rfl, k1⟩
 intro aq wq hO hR hT
 have hR0 := hR
 replace hR := (Ext.drew _).trans hR
 obtain ⟨x0, x1, x2, hv, k0, k1, k2⟩ := (hT 47 rfl rfl)
 exact ⟨_, yl_extract (V := i64 (((keyUse seed ((n : Int)) ((m : Int)) md).2.2.2.2.2.2 : Nat) : Int)) hv (by rw [show x2 = i64 (((keyUse seed ((n : Int)) ((m : Int)) md).2.2.2.2.2.2 : Nat) : Int) from k2]; rfl), rfl⟩
 intro wl hwl hwh a44 wd44 N44 D44 hO hR hA hU
 have hS_44 : ExtE (fun k => wd43.heap.size ≤ k) wl wd44 := hR.toE
 replace hR := hwl.trans hR
 obtain ⟨_, _, _, _, _, _, _, t54, t55, t56, t14, t15, _⟩ := hA
 have E44 := E43.trans hR
 have s2_44 := oT hO s2_43 rfl
 have s8_44 := oT hO s8_43 rfl
 have s9_44 := oT hO s9_43 rfl
 have s11_44 := oT hO s11_43 rfl
 have s13_44 := oT hO s13_43 rfl
 have B3_44 := B3_43.ext' hR
 have B9_44 := B9_43.ext' hR
 have B11_44 := B11_43.ext' hR
 have X1_44 := X1_43.ext' hR
 have s54_44 : get a44 54 = Value.agg #[w32 ((keyUse seed ((n : Int)) ((m : Int)) md).1).a, w32 ((keyUse seed ((n : Int)) ((m : Int)) md).1).b, w32 ((keyUse seed ((n : Int)) ((m : Int)) md).1).c, w32 ((keyUse seed ((n : Int)) ((m : Int)) md).1).d, i64 ((keyUse seed ((n : Int)) ((m : Int)) md).2.1), i64 ((keyUse seed ((n : Int)) ((m : Int)) md).2.2.1)] := t54
 obtain ⟨x55_0_44, x55_1_44, s55_44, ky55_0_44, ky55_1_44⟩ := t55
 replace ky55_0_44 : OwnT DG wd43.heap.size 24 ((keyUse seed ((n : Int)) ((m : Int)) md).2.2.2.2.1) x55_0_44 wd44 := ky55_0_44
 have nbo_x55_0_44_b3 := Ob1 ky55_0_44 B3_43
 have nbo_x55_0_44_b9 := Ob1 ky55_0_44 B9_43
 have nbo_x55_0_44_b11 := Ob1 ky55_0_44 B11_43
 have X55_0_44_44 := ky55_0_44.sl.wide (Nat.zero_le _) (.inl rfl)
 have O55_0_44_44 := OwnT.base ky55_0_44 E43.size'
 replace ky55_1_44 : OwnT DG wd43.heap.size 24 ((keyUse seed ((n : Int)) ((m : Int)) md).2.2.2.2.2.1) x55_1_44 wd44 := ky55_1_44
 have nbo_x55_1_44_b3 := Ob1 ky55_1_44 B3_43
 have nbo_x55_1_44_b9 := Ob1 ky55_1_44 B9_43
 have nbo_x55_1_44_b11 := Ob1 ky55_1_44 B11_43
 have X55_1_44_44 := ky55_1_44.sl.wide (Nat.zero_le _) (.inl rfl)
 have O55_1_44_44 := OwnT.base ky55_1_44 E43.size'
 have s56_44 : get a44 56 = i64 (((keyUse seed ((n : Int)) ((m : Int)) md).2.2.2.2.2.2 : Nat) : Int) := t56
 obtain ⟨b14, s14_44, lo_b14, B14_44⟩ := t14
 have ne_b3_b14 := Hl B3_43 lo_b14
 have ne_b9_b14 := Hl B9_43 lo_b14
 have ne_b11_b14 := Hl B11_43 lo_b14
 have nb_x1_b14 := SlT.old X1_43 lo_b14
 have fr_b14 : w0.heap.size ≤ b14 := Nat.le_trans E43.size' lo_b14
 obtain ⟨b15, s15_44, lo_b15, B15_44⟩ := t15
 have ne_b3_b15 := Hl B3_43 lo_b15
 have ne_b9_b15 := Hl B9_43 lo_b15
 have ne_b11_b15 := Hl B11_43 lo_b15
 have nb_x1_b15 := SlT.old X1_43 lo_b15
 have fr_b15 : w0.heap.size ≤ b15 := Nat.le_trans E43.size' lo_b15
 have nbo_x55_0_44_b14 := OwnT.typed O55_0_44_44 B14_44 (by decide)
 have nbo_x55_0_44_b15 := OwnT.typed O55_0_44_44 B15_44 (by decide)
 have nbo_x55_1_44_b14 := OwnT.typed O55_1_44_44 B14_44 (by decide)
 have nbo_x55_1_44_b15 := OwnT.typed O55_1_44_44 B15_44 (by decide)
 obtain ⟨u0, ⟨u1, _⟩⟩ := hU
 have ne_b14_b15 : b14 ≠ b15 := fun e => u0 15 (by decide) (by rw [s14_44, s15_44, e])
 clear E43 N43 D43 s2_43 s8_43 s9_43 s11_43 s13_43 s44_43 B3_43 B9_43 B11_43 X1_43
 refine tailS_none rfl rfl (does_storeD (o := 0) (n := 6) (cs' := [w32 ((keyUse seed ((n : Int)) ((m : Int)) md).1).a, w32 ((keyUse seed ((n : Int)) ((m : Int)) md).1).b, w32 ((keyUse seed ((n : Int)) ((m : Int)) md).1).c, w32 ((keyUse seed ((n : Int)) ((m : Int)) md).1).d, i64 ((keyUse seed ((n : Int)) ((m : Int)) md).2.1), i64 ((keyUse seed ((n : Int)) ((m : Int)) md).2.2.1)]) (V := Value.agg #[w32 ((keyUse seed ((n : Int)) ((m : Int)) md).1).a, w32 ((keyUse seed ((n : Int)) ((m : Int)) md).1).b, w32 ((keyUse seed ((n : Int)) ((m : Int)) md).1).c, w32 ((keyUse seed ((n : Int)) ((m : Int)) md).1).d, i64 ((keyUse seed ((n : Int)) ((m : Int)) md).2.1), i64 ((keyUse seed ((n : Int)) ((m : Int)) md).2.2.1)]) s14_44 s54_44 B14_44 (nB rfl) rfl siz_30 rfl rfl (fun wd45 hX hz B14_45 => ⟨hS_44.trans (hX.mono fun k _ e => (e ▸ (Nat.le_trans (Nat.le_refl _) lo_b14))), ?_⟩))
 have hS_45 := hS_44.trans (hX.mono (E' := (fun k => wd43.heap.size ≤ k)) fun k _ e => (e ▸ (Nat.le_trans (Nat.le_refl _) lo_b14)))
 have E45 := E44.since hX (fun k e => e ▸ fr_b14)
 have B3_45 := B3_44.ext hX ne_b3_b14
 have B9_45 := B9_44.ext hX ne_b9_b14
 have B11_45 := B11_44.ext hX ne_b11_b14
 have B15_45 := B15_44.ext hX ne_b14_b15.symm
 have X1_45 := SlT.over X1_44 hX nb_x1_b14
 have X55_0_44_45 := SlT.over X55_0_44_44 hX (fun _ => nbo_x55_0_44_b14)
 have X55_1_44_45 := SlT.over X55_1_44_44 hX (fun _ => nbo_x55_1_44_b14)
 have O55_0_44_45 := OwnT.ext O55_0_44_44 hX (fun k hk e => nbo_x55_0_44_b14 (e ▸ hk))
 have O55_1_44_45 := OwnT.ext O55_1_44_44 hX (fun k hk e => nbo_x55_1_44_b14 (e ▸ hk))
 clear hX hz E44 B3_44 B9_44 B11_44 B14_44 B15_44 X1_44 X55_0_44_44 X55_1_44_44 O55_0_44_44 O55_1_44_44
 refine tailS_none rfl rfl (does_storeD (o := 0) (n := 3) (cs' := [i64 ((keyUse seed ((n : Int)) ((m : Int)) md).2.2.2.1), x55_0_44, x55_1_44]) (V := Value.agg #[i64 ((keyUse seed ((n : Int)) ((m : Int)) md).2.2.2.1), x55_0_44, x55_1_44]) s15_44 s55_44 B15_45 (nB rfl) rfl siz_37 (one_cons rfl (one_cons (SlT.one X55_0_44_45) (one_cons (SlT.one X55_1_44_45) one_nil))) rfl (fun wd46 hX hz B15_46 => ⟨hS_45.trans (hX.mono fun k _ e => (e ▸ (Nat.le_trans (Nat.le_refl _) lo_b15))), ?_⟩))
 have hS_46 := hS_45.trans (hX.mono (E' := (fun k => wd43.heap.size ≤ k)) fun k _ e => (e ▸ (Nat.le_trans (Nat.le_refl _) lo_b15)))
 have E46 := E45.since hX (fun k e => e ▸ fr_b15)
 have B3_46 := B3_45.ext hX ne_b3_b15
 have B9_46 := B9_45.ext hX ne_b9_b15
 have B11_46 := B11_45.ext hX ne_b11_b15
 have B14_46 := B14_45.ext hX ne_b14_b15
 have X1_46 := SlT.over X1_45 hX nb_x1_b15
 have X55_0_44_46 := SlT.over X55_0_44_45 hX (fun _ => nbo_x55_0_44_b15)
 have X55_1_44_46 := SlT.over X55_1_44_45 hX (fun _ => nbo_x55_1_44_b15)
 have O55_0_44_46 := OwnT.ext O55_0_44_45 hX (fun k hk e => nbo_x55_0_44_b15 (e ▸ hk))
 have O55_1_44_46 := OwnT.ext O55_1_44_45 hX (fun k hk e => nbo_x55_1_44_b15 (e ▸ hk))
 clear hX hz E45 B3_45 B9_45 B11_45 B14_45 B15_45 X1_45 X55_0_44_45 X55_1_44_45 O55_0_44_45 O55_1_44_45
 refine tailS_put rfl rfl N44 D44 (by decide) (does_assign (V := i64 (((keyUse seed ((n : Int)) ((m : Int)) md).2.2.2.2.2.2 : Nat) : Int)) s56_44 (⟨hS_46, fun a47 N47 D47 hv hO => ?_⟩))
 have s16_47 := hv
 have s2_47 := oT hO s2_44 rfl
 have s8_47 := oT hO s8_44 rfl
 have s9_47 := oT hO s9_44 rfl
 have s11_47 := oT hO s11_44 rfl
 have s13_47 := oT hO s13_44 rfl
 have s14_47 := oT hO s14_44 rfl
 have s15_47 := oT hO s15_44 rfl
 clear hO hv N44 D44 s2_44 s8_44 s9_44 s11_44 s13_44 s14_44 s15_44 s54_44 s55_44 s56_44
 refine tailS_nil ?_
 refine wp_seq ?_
 refine wp_seq ?_
 refine Rl [] [(57, Pr.ex (i64 (k : Int))), (58, Pr.ex (i64 ((pw n : Nat) : Int))), (59, Pr.ex (Value.bool (decide (((pw n : Nat) : Int) ≤ (k : Int)))))] 3 N47 D47 ?_ ?_
 refine Ac ?_ (Ac ?_ (Ac ?_ (Az _)))
 exact Am s13_47 rfl fun _ => rfl
 exact Am s8_47 rfl fun _ => rfl
 exact Ap fun aq wq _ hO hR hT => does_geq (a := (k : Int)) (b := ((pw n : Nat) : Int)) (hT 57 rfl rfl) (hT 58 rfl rfl) eR
 intro a48 wd48 N48 D48 hO hR hA hU
 obtain ⟨_, _, t59, _⟩ := hA
 have E48 := E46.trans hR
 have s2_48 := oT hO s2_47 rfl
 have s8_48 := oT hO s8_47 rfl
 have s9_48 := oT hO s9_47 rfl
 have s11_48 := oT hO s11_47 rfl
 have s13_48 := oT hO s13_47 rfl
 have s14_48 := oT hO s14_47 rfl
 have s15_48 := oT hO s15_47 rfl
 have s16_48 := oT hO s16_47 rfl
 have B3_48 := B3_46.ext' hR
 have B9_48 := B9_46.ext' hR
 have B11_48 := B11_46.ext' hR
 have B14_48 := B14_46.ext' hR
 have B15_48 := B15_46.ext' hR
 have X1_48 := X1_46.ext' hR
 have X55_0_44_48 := X55_0_44_46.ext' hR
 have X55_1_44_48 := X55_1_44_46.ext' hR
 have O55_0_44_48 := O55_0_44_46.ext' hR
 have O55_1_44_48 := O55_1_44_46.ext' hR
 have s59_48 : get a48 59 = Value.bool (decide (((pw n : Nat) : Int) ≤ (k : Int))) := t59
 clear E46 N47 D47 s2_47 s8_47 s9_47 s11_47 s13_47 s14_47 s15_47 s16_47 B3_46 B9_46 B11_46 B14_46 B15_46 X1_46 X55_0_44_46 X55_1_44_46 O55_0_44_46 O55_1_44_46
 refine tail_nil ?_
 refine wp_if (B := decide (((pw n : Nat) : Int) ≤ (k : Int))) s59_48 (fun hc9 => ?_) (fun hc9 => ?_)
 have hc9 := of_decide_eq_true hc9
 have hno : ¬ (0 ≤ (m : Int) ∧ (m : Int) < ((pw n : Nat) : Int)) := by omega
 refine wp_seq ?_
 refine wp_seq ?_
 refine Rl [] [(60, Pr.ex (i64 (((keyUse seed ((n : Int)) ((m : Int)) md).2.2.2.2.2.2 : Nat) : Int))), (61, Pr.ex (Value.bool (!decide ((((keyUse seed ((n : Int)) ((m : Int)) md).2.2.2.2.2.2 : Nat) : Int) = ((9 : Nat) : Int))))), (62, Pr.ex (Value.bool (!decide ((((keyUse seed ((n : Int)) ((m : Int)) md).2.2.2.2.2.2 : Nat) : Int) = ((9 : Nat) : Int))))), (63, Pr.ifb (!(!decide ((((keyUse seed ((n : Int)) ((m : Int)) md).2.2.2.2.2.2 : Nat) : Int) = ((9 : Nat) : Int)))) (Pr.ex (Value.agg #[w32 ((keyUse seed ((n : Int)) ((m : Int)) md).1).a, w32 ((keyUse seed ((n : Int)) ((m : Int)) md).1).b, w32 ((keyUse seed ((n : Int)) ((m : Int)) md).1).c, w32 ((keyUse seed ((n : Int)) ((m : Int)) md).1).d, i64 ((keyUse seed ((n : Int)) ((m : Int)) md).2.1), i64 ((keyUse seed ((n : Int)) ((m : Int)) md).2.2.1)]))), (64, Pr.ifb (!(!decide ((((keyUse seed ((n : Int)) ((m : Int)) md).2.2.2.2.2.2 : Nat) : Int) = ((9 : Nat) : Int)))) (Pr.ex (Value.agg #[w32 (Dg.zero).a, w32 (Dg.zero).b, w32 (Dg.zero).c, w32 (Dg.zero).d, i64 ((0 : Nat) : Int), i64 ((0 : Nat) : Int)]))), (65, Pr.ifb (!(!decide ((((keyUse seed ((n : Int)) ((m : Int)) md).2.2.2.2.2.2 : Nat) : Int) = ((9 : Nat) : Int)))) (Pr.ex (Value.bool (!decide ((⟨(keyUse seed ((n : Int)) ((m : Int)) md).1, (keyUse seed ((n : Int)) ((m : Int)) md).2.1, (keyUse seed ((n : Int)) ((m : Int)) md).2.2.1⟩ : Signer) = (⟨Dg.zero, ((0 : Nat) : Int), ((0 : Nat) : Int)⟩ : Signer)))))), (66, Pr.ex (Value.bool ((!decide ((((keyUse seed ((n : Int)) ((m : Int)) md).2.2.2.2.2.2 : Nat) : Int) = ((9 : Nat) : Int))) || (!decide ((⟨(keyUse seed ((n : Int)) ((m : Int)) md).1, (keyUse seed ((n : Int)) ((m : Int)) md).2.1, (keyUse seed ((n : Int)) ((m : Int)) md).2.2.1⟩ : Signer) = (⟨Dg.zero, ((0 : Nat) : Int), ((0 : Nat) : Int)⟩ : Signer))))))] 7 N48 D48 ?_ ?_
 refine Ac ?_ (Ac ?_ (Ac ?_ (Ac ?_ (Ac ?_ (Ac ?_ (Ac ?_ (Az _)))))))
 exact Am s16_48 rfl fun _ => rfl
 exact Ap fun aq wq _ hO hR hT => does_neq (a := (((keyUse seed ((n : Int)) ((m : Int)) md).2.2.2.2.2.2 : Nat) : Int)) (b := ((9 : Nat) : Int)) (hT 60 rfl rfl) rfl eR
 exact Ap fun aq wq _ hO hR hT => does_move (V := Value.bool (!decide ((((keyUse seed ((n : Int)) ((m : Int)) md).2.2.2.2.2.2 : Nat) : Int) = ((9 : Nat) : Int)))) (hT 61 rfl rfl) eR
 refine Ask.guarded (B := !decide ((((keyUse seed ((n : Int)) ((m : Int)) md).2.2.2.2.2.2 : Nat) : Int) = ((9 : Nat) : Int))) (want := false) (t := 62) rfl rfl rfl rfl (by decide) (fun aq wq hO hR hT => hT 62 rfl rfl) (fun hG aq wq hNq hO hR hT => ?_) (fun hno _ => fun hc => absurd (bn hc) hno)
 replace hG := nb hG
 exact does_loadD (o := 0) (n := 6) (mid := [w32 ((keyUse seed ((n : Int)) ((m : Int)) md).1).a, w32 ((keyUse seed ((n : Int)) ((m : Int)) md).1).b, w32 ((keyUse seed ((n : Int)) ((m : Int)) md).1).c, w32 ((keyUse seed ((n : Int)) ((m : Int)) md).1).d, i64 ((keyUse seed ((n : Int)) ((m : Int)) md).2.1), i64 ((keyUse seed ((n : Int)) ((m : Int)) md).2.2.1)]) (oT hO s14_48 rfl) (B14_48.ext' hR) rfl rfl (nB rfl) row_30 rfl ⟨Ext.refl _, fun _ => rfl⟩
 refine Ask.guarded (B := !decide ((((keyUse seed ((n : Int)) ((m : Int)) md).2.2.2.2.2.2 : Nat) : Int) = ((9 : Nat) : Int))) (want := false) (t := 62) rfl rfl rfl rfl (by decide) (fun aq wq hO hR hT => hT 62 rfl rfl) (fun hG aq wq hNq hO hR hT => ?_) (fun hno _ => fun hc => absurd (bn hc) hno)
 replace hG := nb hG
 exact does_build (vs := #[]) (V := Value.agg #[w32 (Dg.zero).a, w32 (Dg.zero).b, w32 (Dg.zero).c, w32 (Dg.zero).d, i64 ((0 : Nat) : Int), i64 ((0 : Nat) : Int)]) parts0 (by kernel_rfl) ⟨Ext.refl _, fun _ => rfl⟩
 refine Ask.guarded (B := !decide ((((keyUse seed ((n : Int)) ((m : Int)) md).2.2.2.2.2.2 : Nat) : Int) = ((9 : Nat) : Int))) (want := false) (t := 62) rfl rfl rfl rfl (by decide) (fun aq wq hO hR hT => hT 62 rfl rfl) (fun hG aq wq hNq hO hR hT => ?_) (fun hno _ => fun hc => absurd (bn hc) hno)
 replace hG := nb hG
 exact does_neT (a := (⟨(keyUse seed ((n : Int)) ((m : Int)) md).1, (keyUse seed ((n : Int)) ((m : Int)) md).2.1, (keyUse seed ((n : Int)) ((m : Int)) md).2.2.1⟩ : Signer)) (b := (⟨Dg.zero, ((0 : Nat) : Int), ((0 : Nat) : Int)⟩ : Signer)) eq_30 (hT 63 rfl rfl hG) (hT 64 rfl rfl hG) ⟨Ext.refl _, fun _ => rfl⟩
 exact Ap fun aq wq _ hO hR hT => does_or (B := !decide ((((keyUse seed ((n : Int)) ((m : Int)) md).2.2.2.2.2.2 : Nat) : Int) = ((9 : Nat) : Int))) (X := !decide ((⟨(keyUse seed ((n : Int)) ((m : Int)) md).1, (keyUse seed ((n : Int)) ((m : Int)) md).2.1, (keyUse seed ((n : Int)) ((m : Int)) md).2.2.1⟩ : Signer) = (⟨Dg.zero, ((0 : Nat) : Int), ((0 : Nat) : Int)⟩ : Signer))) (hT 62 rfl rfl) rfl (fun hB => (hT 65 rfl rfl (nb hB))) eR
 intro a49 wd49 N49 D49 hO hR hA hU
 obtain ⟨_, _, _, _, _, _, t66, _⟩ := hA
 have E49 := E48.trans hR
 have s2_49 := oT hO s2_48 rfl
 have s8_49 := oT hO s8_48 rfl
 have s9_49 := oT hO s9_48 rfl
 have s11_49 := oT hO s11_48 rfl
 have s13_49 := oT hO s13_48 rfl
 have B3_49 := B3_48.ext' hR
 have B9_49 := B9_48.ext' hR
 have B11_49 := B11_48.ext' hR
 have B14_49 := B14_48.ext' hR
 have B15_49 := B15_48.ext' hR
 have X1_49 := X1_48.ext' hR
 have X55_0_44_49 := X55_0_44_48.ext' hR
 have X55_1_44_49 := X55_1_44_48.ext' hR
 have O55_0_44_49 := O55_0_44_48.ext' hR
 have O55_1_44_49 := O55_1_44_48.ext' hR
 have s66_49 : get a49 66 = Value.bool ((!decide ((((keyUse seed ((n : Int)) ((m : Int)) md).2.2.2.2.2.2 : Nat) : Int) = ((9 : Nat) : Int))) || (!decide ((⟨(keyUse seed ((n : Int)) ((m : Int)) md).1, (keyUse seed ((n : Int)) ((m : Int)) md).2.1, (keyUse seed ((n : Int)) ((m : Int)) md).2.2.1⟩ : Signer) = (⟨Dg.zero, ((0 : Nat) : Int), ((0 : Nat) : Int)⟩ : Signer)))) := t66
 clear E48 N48 D48 s2_48 s8_48 s9_48 s11_48 s13_48 s14_48 s15_48 s16_48 s59_48 B3_48 B9_48 B11_48 B14_48 B15_48 X1_48 X55_0_44_48 X55_1_44_48 O55_0_44_48 O55_1_44_48
 refine tail_nil ?_
 refine wp_if (B := (!decide ((((keyUse seed ((n : Int)) ((m : Int)) md).2.2.2.2.2.2 : Nat) : Int) = ((9 : Nat) : Int))) || (!decide ((⟨(keyUse seed ((n : Int)) ((m : Int)) md).1, (keyUse seed ((n : Int)) ((m : Int)) md).2.1, (keyUse seed ((n : Int)) ((m : Int)) md).2.2.1⟩ : Signer) = (⟨Dg.zero, ((0 : Nat) : Int), ((0 : Nat) : Int)⟩ : Signer)))) s66_49 (fun hc10 => ?_) (fun hc10 => ?_)
 rw [keyUse_arg hn4 hno] at hc10; simp at hc10
 refine wp_skip ?_
 refine wp_exit ?_
 refine Rl [] [(45, Pr.ex (i64 (k : Int))), (46, Pr.ex (i64 ((k + 1 : Nat) : Int)))] 2 N49 D49 ?_ ?_
 refine Ac ?_ (Ac ?_ (Az _))
 exact Am s13_49 rfl fun _ => rfl
 exact Ap fun aq wq _ hO hR hT => does_add (a := (k : Int)) (b := ((1 : Nat) : Int)) (r := ((k + 1 : Nat) : Int)) (hT 45 rfl rfl) rfl (by omega) (by omega) (by omega) eR
 intro a50 wd50 N50 D50 hO hR hA hU
 obtain ⟨_, t46, _⟩ := hA
 have E50 := E49.trans hR
 have s2_50 := oT hO s2_49 rfl
 have s8_50 := oT hO s8_49 rfl
 have s9_50 := oT hO s9_49 rfl
 have s11_50 := oT hO s11_49 rfl
 have s13_50 := oT hO s13_49 rfl
 have B3_50 := B3_49.ext' hR
 have B9_50 := B9_49.ext' hR
 have B11_50 := B11_49.ext' hR
 have B14_50 := B14_49.ext' hR
 have B15_50 := B15_49.ext' hR
 have X1_50 := X1_49.ext' hR
 have X55_0_44_50 := X55_0_44_49.ext' hR
 have X55_1_44_50 := X55_1_44_49.ext' hR
 have O55_0_44_50 := O55_0_44_49.ext' hR
 have O55_1_44_50 := O55_1_44_49.ext' hR
 have s46_50 : get a50 46 = i64 ((k + 1 : Nat) : Int) := t46
 clear E49 N49 D49 s2_49 s8_49 s9_49 s11_49 s13_49 s66_49 B3_49 B9_49 B11_49 B14_49 B15_49 X1_49 X55_0_44_49 X55_1_44_49 O55_0_44_49 O55_1_44_49
 refine tail_put rfl rfl N50 D50 (by decide) (does_assign (V := i64 ((k + 1 : Nat) : Int)) s46_50 (fun a51 N51 D51 hv hO => ?_))
 have s13_51 := hv
 have s2_51 := oT hO s2_50 rfl
 have s8_51 := oT hO s8_50 rfl
 have s9_51 := oT hO s9_50 rfl
 have s11_51 := oT hO s11_50 rfl
 clear hO hv N50 D50 s2_50 s8_50 s9_50 s11_50 s46_50 s13_50
 refine tail_nil ?_
 exact ⟨_, by omega, k + 1, m, rfl, N51, D51, s2_51, s8_51, s9_51, s11_51, s13_51, E50, B3_50, B9_50, B11_50, X1_50, by omega, by omega⟩
 have hc9 := of_decide_eq_false hc9
 have hmk : m = k := by omega
 have hj : m < pw n := by omega
 refine wp_skip ?_
 refine wp_seq ?_
 refine wp_seq ?_
 refine Ra [] [(67, Pr.ex (i64 (((keyUse seed ((n : Int)) ((m : Int)) md).2.2.2.2.2.2 : Nat) : Int))), (68, Pr.ex (Value.bool (!decide ((((keyUse seed ((n : Int)) ((m : Int)) md).2.2.2.2.2.2 : Nat) : Int) = ((0 : Nat) : Int))))), (69, Pr.ex (Value.bool (!decide ((((keyUse seed ((n : Int)) ((m : Int)) md).2.2.2.2.2.2 : Nat) : Int) = ((0 : Nat) : Int))))), (70, Pr.ifb (!(!decide ((((keyUse seed ((n : Int)) ((m : Int)) md).2.2.2.2.2.2 : Nat) : Int) = ((0 : Nat) : Int)))) (Pr.ex (Value.pointer (some ⟨b15, 0, none⟩)))), (71, Pr.ifb (!(!decide ((((keyUse seed ((n : Int)) ((m : Int)) md).2.2.2.2.2.2 : Nat) : Int) = ((0 : Nat) : Int)))) (Pr.ex (i64 ((keyUse seed ((n : Int)) ((m : Int)) md).2.2.2.1)))), (72, Pr.ifb (!(!decide ((((keyUse seed ((n : Int)) ((m : Int)) md).2.2.2.2.2.2 : Nat) : Int) = ((0 : Nat) : Int)))) (Pr.ex (i64 (k : Int)))), (73, Pr.ifb (!(!decide ((((keyUse seed ((n : Int)) ((m : Int)) md).2.2.2.2.2.2 : Nat) : Int) = ((0 : Nat) : Int)))) (Pr.ex (Value.bool (!decide ((keyUse seed ((n : Int)) ((m : Int)) md).2.2.2.1 = (k : Int)))))), (74, Pr.ex (Value.bool ((!decide ((((keyUse seed ((n : Int)) ((m : Int)) md).2.2.2.2.2.2 : Nat) : Int) = ((0 : Nat) : Int))) || (!decide ((keyUse seed ((n : Int)) ((m : Int)) md).2.2.2.1 = (k : Int)))))), (75, Pr.ex (Value.bool ((!decide ((((keyUse seed ((n : Int)) ((m : Int)) md).2.2.2.2.2.2 : Nat) : Int) = ((0 : Nat) : Int))) || (!decide ((keyUse seed ((n : Int)) ((m : Int)) md).2.2.2.1 = (k : Int)))))), (76, Pr.ifb (!((!decide ((((keyUse seed ((n : Int)) ((m : Int)) md).2.2.2.2.2.2 : Nat) : Int) = ((0 : Nat) : Int))) || (!decide ((keyUse seed ((n : Int)) ((m : Int)) md).2.2.2.1 = (k : Int))))) (Pr.ex (Dg.val (root (publics seed (pw n)))))), (77, Pr.ifb (!((!decide ((((keyUse seed ((n : Int)) ((m : Int)) md).2.2.2.2.2.2 : Nat) : Int) = ((0 : Nat) : Int))) || (!decide ((keyUse seed ((n : Int)) ((m : Int)) md).2.2.2.1 = (k : Int))))) (Pr.ex (x1))), (78, Pr.ifb (!((!decide ((((keyUse seed ((n : Int)) ((m : Int)) md).2.2.2.2.2.2 : Nat) : Int) = ((0 : Nat) : Int))) || (!decide ((keyUse seed ((n : Int)) ((m : Int)) md).2.2.2.1 = (k : Int))))) (Pr.ex (i64 (k : Int)))), (79, Pr.ifb (!((!decide ((((keyUse seed ((n : Int)) ((m : Int)) md).2.2.2.2.2.2 : Nat) : Int) = ((0 : Nat) : Int))) || (!decide ((keyUse seed ((n : Int)) ((m : Int)) md).2.2.2.1 = (k : Int))))) (Pr.pt' 0 (w0.heap.size + 1) [w32 (md).a, w32 (md).b, w32 (md).c, w32 (md).d])), (80, Pr.ifb (!((!decide ((((keyUse seed ((n : Int)) ((m : Int)) md).2.2.2.2.2.2 : Nat) : Int) = ((0 : Nat) : Int))) || (!decide ((keyUse seed ((n : Int)) ((m : Int)) md).2.2.2.1 = (k : Int))))) (Pr.ex (Dg.val (md)))), (81, Pr.ifb (!((!decide ((((keyUse seed ((n : Int)) ((m : Int)) md).2.2.2.2.2.2 : Nat) : Int) = ((0 : Nat) : Int))) || (!decide ((keyUse seed ((n : Int)) ((m : Int)) md).2.2.2.1 = (k : Int))))) (Pr.ex (Value.agg #[i64 ((keyUse seed ((n : Int)) ((m : Int)) md).2.2.2.1), x55_0_44, x55_1_44]))), (82, Pr.ifb (!((!decide ((((keyUse seed ((n : Int)) ((m : Int)) md).2.2.2.2.2.2 : Nat) : Int) = ((0 : Nat) : Int))) || (!decide ((keyUse seed ((n : Int)) ((m : Int)) md).2.2.2.1 = (k : Int))))) (Pr.ex (Value.bool (keyCheck (root (publics seed (pw n))) md ((keyUse seed ((n : Int)) ((m : Int)) md).2.2.2.1) ((keyUse seed ((n : Int)) ((m : Int)) md).2.2.2.2.1) ((keyUse seed ((n : Int)) ((m : Int)) md).2.2.2.2.2.1))))), (83, Pr.ifb (!((!decide ((((keyUse seed ((n : Int)) ((m : Int)) md).2.2.2.2.2.2 : Nat) : Int) = ((0 : Nat) : Int))) || (!decide ((keyUse seed ((n : Int)) ((m : Int)) md).2.2.2.1 = (k : Int))))) (Pr.ex (Value.bool (!(keyCheck (root (publics seed (pw n))) md ((keyUse seed ((n : Int)) ((m : Int)) md).2.2.2.1) ((keyUse seed ((n : Int)) ((m : Int)) md).2.2.2.2.1) ((keyUse seed ((n : Int)) ((m : Int)) md).2.2.2.2.2.1)))))), (84, Pr.ex (Value.bool (((!decide ((((keyUse seed ((n : Int)) ((m : Int)) md).2.2.2.2.2.2 : Nat) : Int) = ((0 : Nat) : Int))) || (!decide ((keyUse seed ((n : Int)) ((m : Int)) md).2.2.2.1 = (k : Int)))) || (!(keyCheck (root (publics seed (pw n))) md ((keyUse seed ((n : Int)) ((m : Int)) md).2.2.2.1) ((keyUse seed ((n : Int)) ((m : Int)) md).2.2.2.2.1) ((keyUse seed ((n : Int)) ((m : Int)) md).2.2.2.2.2.1))))))] 18 mixed N48 D48 ?_ ?_
 refine Ac ?_ (Ac ?_ (Ac ?_ (Ac ?_ (Ac ?_ (Ac ?_ (Ac ?_ (Ac ?_ (Ac ?_ (Ac ?_ (Ac ?_ (Ac ?_ (Ac ?_ (Ac ?_ (Ac ?_ (Ac ?_ (Ac ?_ (Ac ?_ (Az _))))))))))))))))))
 exact Am s16_48 rfl fun _ => rfl
 exact Ad fun aq wq _ hO hR hT => does_neq (a := (((keyUse seed ((n : Int)) ((m : Int)) md).2.2.2.2.2.2 : Nat) : Int)) (b := ((0 : Nat) : Int)) (hT 67 rfl rfl) rfl eR
 exact Ad fun aq wq _ hO hR hT => does_move (V := Value.bool (!decide ((((keyUse seed ((n : Int)) ((m : Int)) md).2.2.2.2.2.2 : Nat) : Int) = ((0 : Nat) : Int)))) (hT 68 rfl rfl) eR
 refine Ask.guarded (B := !decide ((((keyUse seed ((n : Int)) ((m : Int)) md).2.2.2.2.2.2 : Nat) : Int) = ((0 : Nat) : Int))) (want := false) (t := 69) rfl rfl rfl rfl (by decide) (fun aq wq hO hR hT => hT 69 rfl rfl) (fun hG aq wq hNq hO hR hT => ?_) (fun hno _ => fun hc => absurd (bn hc) hno)
 replace hG := nb hG
 replace hR := (Ext.drew _).trans hR
 exact does_field (o' := 0) fld_37_0 (oT hO s15_48 rfl) rfl ⟨Ext.refl _, fun _ => rfl⟩
 refine Ask.guarded (B := !decide ((((keyUse seed ((n : Int)) ((m : Int)) md).2.2.2.2.2.2 : Nat) : Int) = ((0 : Nat) : Int))) (want := false) (t := 69) rfl rfl rfl rfl (by decide) (fun aq wq hO hR hT => hT 69 rfl rfl) (fun hG aq wq hNq hO hR hT => ?_) (fun hno _ => fun hc => absurd (bn hc) hno)
 replace hG := nb hG
 replace hR := (Ext.drew _).trans hR
 exact does_loadD1 (o := 0) (V := i64 ((keyUse seed ((n : Int)) ((m : Int)) md).2.2.2.1)) (hT 70 rfl rfl hG) (B15_48.ext' hR) rfl one_3 ⟨Ext.refl _, fun _ => rfl⟩
 refine Ask.guarded (B := !decide ((((keyUse seed ((n : Int)) ((m : Int)) md).2.2.2.2.2.2 : Nat) : Int) = ((0 : Nat) : Int))) (want := false) (t := 69) rfl rfl rfl rfl (by decide) (fun aq wq hO hR hT => hT 69 rfl rfl) (fun hG aq wq hNq hO hR hT => ?_) (fun hno _ => fun hc => absurd (bn hc) hno)
 replace hG := nb hG
 replace hR := (Ext.drew _).trans hR
 exact does_move (V := i64 (k : Int)) (oT hO s13_48 rfl) ⟨Ext.refl _, fun _ => rfl⟩
 refine Ask.guarded (B := !decide ((((keyUse seed ((n : Int)) ((m : Int)) md).2.2.2.2.2.2 : Nat) : Int) = ((0 : Nat) : Int))) (want := false) (t := 69) rfl rfl rfl rfl (by decide) (fun aq wq hO hR hT => hT 69 rfl rfl) (fun hG aq wq hNq hO hR hT => ?_) (fun hno _ => fun hc => absurd (bn hc) hno)
 replace hG := nb hG
 replace hR := (Ext.drew _).trans hR
 exact does_neq (a := (keyUse seed ((n : Int)) ((m : Int)) md).2.2.2.1) (b := (k : Int)) (hT 71 rfl rfl hG) (hT 72 rfl rfl hG) ⟨Ext.refl _, fun _ => rfl⟩
 exact Ad fun aq wq _ hO hR hT => does_or (B := !decide ((((keyUse seed ((n : Int)) ((m : Int)) md).2.2.2.2.2.2 : Nat) : Int) = ((0 : Nat) : Int))) (X := !decide ((keyUse seed ((n : Int)) ((m : Int)) md).2.2.2.1 = (k : Int))) (hT 69 rfl rfl) rfl (fun hB => (hT 73 rfl rfl (nb hB))) eR
 exact Ad fun aq wq _ hO hR hT => does_move (V := Value.bool ((!decide ((((keyUse seed ((n : Int)) ((m : Int)) md).2.2.2.2.2.2 : Nat) : Int) = ((0 : Nat) : Int))) || (!decide ((keyUse seed ((n : Int)) ((m : Int)) md).2.2.2.1 = (k : Int))))) (hT 74 rfl rfl) eR
 refine Ask.guarded (B := (!decide ((((keyUse seed ((n : Int)) ((m : Int)) md).2.2.2.2.2.2 : Nat) : Int) = ((0 : Nat) : Int))) || (!decide ((keyUse seed ((n : Int)) ((m : Int)) md).2.2.2.1 = (k : Int)))) (want := false) (t := 75) rfl rfl rfl rfl (by decide) (fun aq wq hO hR hT => hT 75 rfl rfl) (fun hG aq wq hNq hO hR hT => ?_) (fun hno _ => fun hc => absurd (bn hc) hno)
 replace hG := nb hG
 replace hR := (Ext.drew _).trans hR
 exact does_loadD (o := 0) (n := 4) (mid := [w32 (root (publics seed (pw n))).a, w32 (root (publics seed (pw n))).b, w32 (root (publics seed (pw n))).c, w32 (root (publics seed (pw n))).d]) (oT hO s11_48 rfl) (B11_48.ext' hR) rfl rfl (nB rfl) row_24 rfl ⟨Ext.refl _, fun _ => rfl⟩
 refine Ask.guarded (B := (!decide ((((keyUse seed ((n : Int)) ((m : Int)) md).2.2.2.2.2.2 : Nat) : Int) = ((0 : Nat) : Int))) || (!decide ((keyUse seed ((n : Int)) ((m : Int)) md).2.2.2.1 = (k : Int)))) (want := false) (t := 75) rfl rfl rfl rfl (by decide) (fun aq wq hO hR hT => hT 75 rfl rfl) (fun hG aq wq hNq hO hR hT => ?_) (fun hno _ => fun hc => absurd (bn hc) hno)
 replace hG := nb hG
 replace hR := (Ext.drew _).trans hR
 exact does_move (V := x1) (oT hO s2_48 rfl) ⟨Ext.refl _, fun _ => rfl⟩
 refine Ask.guarded (B := (!decide ((((keyUse seed ((n : Int)) ((m : Int)) md).2.2.2.2.2.2 : Nat) : Int) = ((0 : Nat) : Int))) || (!decide ((keyUse seed ((n : Int)) ((m : Int)) md).2.2.2.1 = (k : Int)))) (want := false) (t := 75) rfl rfl rfl rfl (by decide) (fun aq wq hO hR hT => hT 75 rfl rfl) (fun hG aq wq hNq hO hR hT => ?_) (fun hno _ => fun hc => absurd (bn hc) hno)
 replace hG := nb hG
 replace hR := (Ext.drew _).trans hR
 exact does_move (V := i64 (k : Int)) (oT hO s13_48 rfl) ⟨Ext.refl _, fun _ => rfl⟩
 refine Ask.guarded (B := (!decide ((((keyUse seed ((n : Int)) ((m : Int)) md).2.2.2.2.2.2 : Nat) : Int) = ((0 : Nat) : Int))) || (!decide ((keyUse seed ((n : Int)) ((m : Int)) md).2.2.2.1 = (k : Int)))) (want := false) (t := 75) rfl rfl rfl rfl (by decide) (fun aq wq hO hR hT => hT 75 rfl rfl) (fun hG aq wq hNq hO hR hT => ?_) (fun hno _ => fun hc => absurd (bn hc) hno)
 replace hG := nb hG
 replace hR := (Ext.drew _).trans hR
 exact does_indexSl (T := DG) (xs := l) (i := (k : Int)) (X := md) sli_34 rfl (SlT.at (hT 77 rfl rfl hG) (X1_48.ext' hR)) (hT 78 rfl rfl hG) (by omega) hx (fun v h => ⟨Ext.refl _, fun _ => h⟩)
 refine Ask.guarded (B := (!decide ((((keyUse seed ((n : Int)) ((m : Int)) md).2.2.2.2.2.2 : Nat) : Int) = ((0 : Nat) : Int))) || (!decide ((keyUse seed ((n : Int)) ((m : Int)) md).2.2.2.1 = (k : Int)))) (want := false) (t := 75) rfl rfl rfl rfl (by decide) (fun aq wq hO hR hT => hT 75 rfl rfl) (fun hG aq wq hNq hO hR hT => ?_) (fun hno _ => fun hc => absurd (bn hc) hno)
 replace hG := nb hG
 replace hR := (Ext.drew _).trans hR
 exact does_loadP (cs := [w32 (md).a, w32 (md).b, w32 (md).c, w32 (md).d]) (hT 79 rfl rfl hG) row_24 rfl ⟨Ext.refl _, fun _ => rfl⟩
 refine Ask.guarded (B := (!decide ((((keyUse seed ((n : Int)) ((m : Int)) md).2.2.2.2.2.2 : Nat) : Int) = ((0 : Nat) : Int))) || (!decide ((keyUse seed ((n : Int)) ((m : Int)) md).2.2.2.1 = (k : Int)))) (want := false) (t := 75) rfl rfl rfl rfl (by decide) (fun aq wq hO hR hT => hT 75 rfl rfl) (fun hG aq wq hNq hO hR hT => ?_) (fun hno _ => fun hc => absurd (bn hc) hno)
 replace hG := nb hG
 replace hR := (Ext.drew _).trans hR
 exact does_loadD (o := 0) (n := 3) (mid := [i64 ((keyUse seed ((n : Int)) ((m : Int)) md).2.2.2.1), x55_0_44, x55_1_44]) (oT hO s15_48 rfl) (B15_48.ext' hR) rfl rfl (nB rfl) row_37 rfl ⟨Ext.refl _, fun _ => rfl⟩
 refine Ask.guarded (B := (!decide ((((keyUse seed ((n : Int)) ((m : Int)) md).2.2.2.2.2.2 : Nat) : Int) = ((0 : Nat) : Int))) || (!decide ((keyUse seed ((n : Int)) ((m : Int)) md).2.2.2.1 = (k : Int)))) (want := false) (t := 75) rfl rfl rfl rfl (by decide) (fun aq wq hO hR hT => hT 75 rfl rfl) (fun hG aq wq hNq hO hR hT => ?_) (fun hno _ => fun hc => absurd (bn hc) hno)
 replace hG := nb hG
 replace hR := (Ext.drew _).trans hR
 exact does_ret (vs := #[Dg.val (root (publics seed (pw n))), Dg.val (md), Value.agg #[i64 ((keyUse seed ((n : Int)) ((m : Int)) md).2.2.2.1), x55_0_44, x55_1_44]]) call_14 (args3 (hT 76 rfl rfl hG) (hT 80 rfl rfl hG) (hT 81 rfl rfl hG)) rfl ((keyCheck_ (root (publics seed (pw n))) md ((keyUse seed ((n : Int)) ((m : Int)) md).2.2.2.1) ((keyUse seed ((n : Int)) ((m : Int)) md).2.2.2.2.1) ((keyUse seed ((n : Int)) ((m : Int)) md).2.2.2.2.2.1) (x55_0_44) (x55_1_44) wq (hL.ext (E48.trans hR)) ((X55_0_44_48.ext' hR).wide (Nat.zero_le _) (.inl rfl)) ((X55_1_44_48.ext' hR).wide (Nat.zero_le _) (.inl rfl)) (Nat.le_trans keyUse_len.1 (by decide)) (Nat.le_trans keyUse_len.2 (by decide))).mono fun v w2 h => ⟨h.2, fun _ => h.1⟩)
 refine Ask.guarded (B := (!decide ((((keyUse seed ((n : Int)) ((m : Int)) md).2.2.2.2.2.2 : Nat) : Int) = ((0 : Nat) : Int))) || (!decide ((keyUse seed ((n : Int)) ((m : Int)) md).2.2.2.1 = (k : Int)))) (want := false) (t := 75) rfl rfl rfl rfl (by decide) (fun aq wq hO hR hT => hT 75 rfl rfl) (fun hG aq wq hNq hO hR hT => ?_) (fun hno _ => fun hc => absurd (bn hc) hno)
 replace hG := nb hG
 replace hR := (Ext.drew _).trans hR
 exact does_not (B := keyCheck (root (publics seed (pw n))) md ((keyUse seed ((n : Int)) ((m : Int)) md).2.2.2.1) ((keyUse seed ((n : Int)) ((m : Int)) md).2.2.2.2.1) ((keyUse seed ((n : Int)) ((m : Int)) md).2.2.2.2.2.1)) (hT 82 rfl rfl hG) ⟨Ext.refl _, fun _ => rfl⟩
 exact Ad fun aq wq _ hO hR hT => does_or (B := (!decide ((((keyUse seed ((n : Int)) ((m : Int)) md).2.2.2.2.2.2 : Nat) : Int) = ((0 : Nat) : Int))) || (!decide ((keyUse seed ((n : Int)) ((m : Int)) md).2.2.2.1 = (k : Int)))) (X := !(keyCheck (root (publics seed (pw n))) md ((keyUse seed ((n : Int)) ((m : Int)) md).2.2.2.1) ((keyUse seed ((n : Int)) ((m : Int)) md).2.2.2.2.1) ((keyUse seed ((n : Int)) ((m : Int)) md).2.2.2.2.2.1))) (hT 75 rfl rfl) rfl (fun hB => (hT 83 rfl rfl (nb hB))) eR
 intro a52 wd52 N52 D52 hO hR hA hU
 obtain ⟨_, _, _, _, _, _, _, _, _, _, _, _, _, _, _, _, _, t84, _⟩ := hA
 have E52 := E48.trans hR
 have s2_52 := oT hO s2_48 rfl
 have s8_52 := oT hO s8_48 rfl
 have s9_52 := oT hO s9_48 rfl
 have s11_52 := oT hO s11_48 rfl
 have s13_52 := oT hO s13_48 rfl
 have s14_52 := oT hO s14_48 rfl
 have B3_52 := B3_48.ext' hR
 have B9_52 := B9_48.ext' hR
 have B11_52 := B11_48.ext' hR
 have B14_52 := B14_48.ext' hR
 have B15_52 := B15_48.ext' hR
 have X1_52 := X1_48.ext' hR
 have X55_0_44_52 := X55_0_44_48.ext' hR
 have X55_1_44_52 := X55_1_44_48.ext' hR
 have O55_0_44_52 := O55_0_44_48.ext' hR
 have O55_1_44_52 := O55_1_44_48.ext' hR
 have s84_52 : get a52 84 = Value.bool (((!decide ((((keyUse seed ((n : Int)) ((m : Int)) md).2.2.2.2.2.2 : Nat) : Int) = ((0 : Nat) : Int))) || (!decide ((keyUse seed ((n : Int)) ((m : Int)) md).2.2.2.1 = (k : Int)))) || (!(keyCheck (root (publics seed (pw n))) md ((keyUse seed ((n : Int)) ((m : Int)) md).2.2.2.1) ((keyUse seed ((n : Int)) ((m : Int)) md).2.2.2.2.1) ((keyUse seed ((n : Int)) ((m : Int)) md).2.2.2.2.2.1)))) := t84
 clear E48 N48 D48 s2_48 s8_48 s9_48 s11_48 s13_48 s14_48 s15_48 s16_48 s59_48 B3_48 B9_48 B11_48 B14_48 B15_48 X1_48 X55_0_44_48 X55_1_44_48 O55_0_44_48 O55_1_44_48
 refine tail_nil ?_
 refine wp_if (B := ((!decide ((((keyUse seed ((n : Int)) ((m : Int)) md).2.2.2.2.2.2 : Nat) : Int) = ((0 : Nat) : Int))) || (!decide ((keyUse seed ((n : Int)) ((m : Int)) md).2.2.2.1 = (k : Int)))) || (!(keyCheck (root (publics seed (pw n))) md ((keyUse seed ((n : Int)) ((m : Int)) md).2.2.2.1) ((keyUse seed ((n : Int)) ((m : Int)) md).2.2.2.2.1) ((keyUse seed ((n : Int)) ((m : Int)) md).2.2.2.2.2.1)))) s84_52 (fun hc11 => ?_) (fun hc11 => ?_)
 rw [keyUse_ok hn4 hj] at hc11; simp [keyCheck_sign hn4 hj, hmk] at hc11; first | done | (have h9 := keyCheck_sign (seed := seed) (msg := md) hn4 hj; rw [hmk] at h9; simp [h9] at hc11)
 refine wp_skip ?_
 refine Rl [] [(85, Pr.ex (Value.agg #[w32 ((keyUse seed ((n : Int)) ((m : Int)) md).1).a, w32 ((keyUse seed ((n : Int)) ((m : Int)) md).1).b, w32 ((keyUse seed ((n : Int)) ((m : Int)) md).1).c, w32 ((keyUse seed ((n : Int)) ((m : Int)) md).1).d, i64 ((keyUse seed ((n : Int)) ((m : Int)) md).2.1), i64 ((keyUse seed ((n : Int)) ((m : Int)) md).2.2.1)]))] 1 N52 D52 ?_ ?_
 refine Ac ?_ (Az _)
 exact Ap fun aq wq _ hO hR hT => does_loadD (o := 0) (n := 6) (mid := [w32 ((keyUse seed ((n : Int)) ((m : Int)) md).1).a, w32 ((keyUse seed ((n : Int)) ((m : Int)) md).1).b, w32 ((keyUse seed ((n : Int)) ((m : Int)) md).1).c, w32 ((keyUse seed ((n : Int)) ((m : Int)) md).1).d, i64 ((keyUse seed ((n : Int)) ((m : Int)) md).2.1), i64 ((keyUse seed ((n : Int)) ((m : Int)) md).2.2.1)]) (oT hO s14_52 rfl) (B14_52.ext' hR) rfl rfl (nB rfl) row_30 rfl eR
 intro a53 wd53 N53 D53 hO hR hA hU
 obtain ⟨t85, _⟩ := hA
 have E53 := E52.trans hR
 have s2_53 := oT hO s2_52 rfl
 have s8_53 := oT hO s8_52 rfl
 have s9_53 := oT hO s9_52 rfl
 have s11_53 := oT hO s11_52 rfl
 have s13_53 := oT hO s13_52 rfl
 have B3_53 := B3_52.ext' hR
 have B9_53 := B9_52.ext' hR
 have B11_53 := B11_52.ext' hR
 have B14_53 := B14_52.ext' hR
 have B15_53 := B15_52.ext' hR
 have X1_53 := X1_52.ext' hR
 have X55_0_44_53 := X55_0_44_52.ext' hR
 have X55_1_44_53 := X55_1_44_52.ext' hR
 have O55_0_44_53 := O55_0_44_52.ext' hR
 have O55_1_44_53 := O55_1_44_52.ext' hR
 have s85_53 : get a53 85 = Value.agg #[w32 ((keyUse seed ((n : Int)) ((m : Int)) md).1).a, w32 ((keyUse seed ((n : Int)) ((m : Int)) md).1).b, w32 ((keyUse seed ((n : Int)) ((m : Int)) md).1).c, w32 ((keyUse seed ((n : Int)) ((m : Int)) md).1).d, i64 ((keyUse seed ((n : Int)) ((m : Int)) md).2.1), i64 ((keyUse seed ((n : Int)) ((m : Int)) md).2.2.1)] := t85
 clear E52 N52 D52 s2_52 s8_52 s9_52 s11_52 s13_52 s14_52 s84_52 B3_52 B9_52 B11_52 B14_52 B15_52 X1_52 X55_0_44_52 X55_1_44_52 O55_0_44_52 O55_1_44_52
 refine tail_none rfl rfl (does_storeD (o := 0) (n := 6) (cs' := [w32 ((keyUse seed ((n : Int)) ((m : Int)) md).1).a, w32 ((keyUse seed ((n : Int)) ((m : Int)) md).1).b, w32 ((keyUse seed ((n : Int)) ((m : Int)) md).1).c, w32 ((keyUse seed ((n : Int)) ((m : Int)) md).1).d, i64 ((keyUse seed ((n : Int)) ((m : Int)) md).2.1), i64 ((keyUse seed ((n : Int)) ((m : Int)) md).2.2.1)]) (V := Value.agg #[w32 ((keyUse seed ((n : Int)) ((m : Int)) md).1).a, w32 ((keyUse seed ((n : Int)) ((m : Int)) md).1).b, w32 ((keyUse seed ((n : Int)) ((m : Int)) md).1).c, w32 ((keyUse seed ((n : Int)) ((m : Int)) md).1).d, i64 ((keyUse seed ((n : Int)) ((m : Int)) md).2.1), i64 ((keyUse seed ((n : Int)) ((m : Int)) md).2.2.1)]) s9_53 s85_53 B9_53 (nB rfl) rfl siz_30 rfl rfl (fun wd54 hX hz B9_54 => ?_))
 have E54 := E53.since hX (fun k e => e ▸ fr_b9)
 have B3_54 := B3_53.ext hX ne_b3_b9
 have B11_54 := B11_53.ext hX ne_b9_b11.symm
 have B14_54 := B14_53.ext hX ne_b9_b14.symm
 have B15_54 := B15_53.ext hX ne_b9_b15.symm
 have X1_54 := SlT.over X1_53 hX nb_x1_b9
 have X55_0_44_54 := SlT.over X55_0_44_53 hX (fun _ => nbo_x55_0_44_b9)
 have X55_1_44_54 := SlT.over X55_1_44_53 hX (fun _ => nbo_x55_1_44_b9)
 have O55_0_44_54 := OwnT.ext O55_0_44_53 hX (fun k hk e => nbo_x55_0_44_b9 (e ▸ hk))
 have O55_1_44_54 := OwnT.ext O55_1_44_53 hX (fun k hk e => nbo_x55_1_44_b9 (e ▸ hk))
 clear hX hz E53 B3_53 B9_53 B11_53 B14_53 B15_53 X1_53 X55_0_44_53 X55_1_44_53 O55_0_44_53 O55_1_44_53
 refine tail_nil ?_
 refine Rl [] [(45, Pr.ex (i64 (k : Int))), (46, Pr.ex (i64 ((k + 1 : Nat) : Int)))] 2 N53 D53 ?_ ?_
 refine Ac ?_ (Ac ?_ (Az _))
 exact Am s13_53 rfl fun _ => rfl
 exact Ap fun aq wq _ hO hR hT => does_add (a := (k : Int)) (b := ((1 : Nat) : Int)) (r := ((k + 1 : Nat) : Int)) (hT 45 rfl rfl) rfl (by omega) (by omega) (by omega) eR
 intro a55 wd55 N55 D55 hO hR hA hU
 obtain ⟨_, t46, _⟩ := hA
 have E55 := E54.trans hR
 have s2_55 := oT hO s2_53 rfl
 have s8_55 := oT hO s8_53 rfl
 have s9_55 := oT hO s9_53 rfl
 have s11_55 := oT hO s11_53 rfl
 have s13_55 := oT hO s13_53 rfl
 have B3_55 := B3_54.ext' hR
 have B9_55 := B9_54.ext' hR
 have B11_55 := B11_54.ext' hR
 have B14_55 := B14_54.ext' hR
 have B15_55 := B15_54.ext' hR
 have X1_55 := X1_54.ext' hR
 have X55_0_44_55 := X55_0_44_54.ext' hR
 have X55_1_44_55 := X55_1_44_54.ext' hR
 have O55_0_44_55 := O55_0_44_54.ext' hR
 have O55_1_44_55 := O55_1_44_54.ext' hR
 have s46_55 : get a55 46 = i64 ((k + 1 : Nat) : Int) := t46
 clear E54 N53 D53 s2_53 s8_53 s9_53 s11_53 s13_53 s85_53 B3_54 B9_54 B11_54 B14_54 B15_54 X1_54 X55_0_44_54 X55_1_44_54 O55_0_44_54 O55_1_44_54
 refine tail_put rfl rfl N55 D55 (by decide) (does_assign (V := i64 ((k + 1 : Nat) : Int)) s46_55 (fun a56 N56 D56 hv hO => ?_))
 have s13_56 := hv
 have s2_56 := oT hO s2_55 rfl
 have s8_56 := oT hO s8_55 rfl
 have s9_56 := oT hO s9_55 rfl
 have s11_56 := oT hO s11_55 rfl
 clear hO hv N55 D55 s2_55 s8_55 s9_55 s11_55 s46_55 s13_55
 refine tail_nil ?_
 exact ⟨_, by omega, k + 1, m + 1, rfl, N56, D56, s2_56, s8_56, s9_56, s11_56, s13_56, E55, B3_55, (by have h := B9_55; rw [keyUse_ok hn4 hj] at h; exact h), B11_55, X1_55, by omega, by omega⟩
 have hc8 := of_decide_eq_false hc8
 refine wp_exit ?_
 refine wp_seq ?_
 refine Rl [] [(6, Pr.ex (Value.bool (true)))] 1 N43 D43 ?_ ?_
 refine Ac ?_ (Az _)
 exact Ap fun aq wq _ hO hR hT => does_assign (V := Value.bool (true)) rfl eR
 intro a57 wd57 N57 D57 hO hR hA hU
 obtain ⟨t6, _⟩ := hA
 have E57 := E43.trans hR
 have B3_57 := B3_43.ext' hR
 have B9_57 := B9_43.ext' hR
 have B11_57 := B11_43.ext' hR
 have X1_57 := X1_43.ext' hR
 have s6_57 : get a57 6 = Value.bool (true) := t6
 clear E43 N43 D43 s2_43 s8_43 s9_43 s11_43 s13_43 s44_43 B3_43 B9_43 B11_43 X1_43
 refine tail_nil ?_
 refine wp_ret ?_
 refine res_one (V := Value.bool (true)) rfl D57 s6_57 ?_
 exact ⟨rfl, E57⟩

end Go.Proofs.YtaeohnkfmachfabDoor
