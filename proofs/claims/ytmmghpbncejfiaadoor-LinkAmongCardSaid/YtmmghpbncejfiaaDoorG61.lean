/- The walks of functions of the program: printed. -/
import Derived.Test.YtmmghpbncejfiaaDoorK
import Derived.Test.YtmmghpbncejfiaaDoorG3
import Derived.Test.YtmmghpbncejfiaaDoorF0
set_option maxRecDepth 100000
namespace Go.Proofs.YtmmghpbncejfiaaDoor
open Go Go.RowKit Sk Sd
theorem steps_ (m : Dg) (w0 : World) :
    Gives Tryd.prog 63 #[Dg.val (m)] w0 (Pr.own' NI w0.heap.size 3 (steps m)) := by
 refine enter (N := 43) Tryd.func63 rfl rfl ?_
 intro a0 N0 D0 hA
 have s0_0 : get a0 0 = Dg.val (m) := hA 0 _ rfl
 clear hA
 have E0 : Ext w0 w0 := Ext.refl w0
 refine wp_seq ?_
 refine Rl [1] [(1, Pr.box' w0.heap.size 24 [w32 (m).a, w32 (m).b, w32 (m).c, w32 (m).d]), (2, Pr.ex (Value.slice none 0 0))] 2 N0 D0 ?_ ?_
 refine Ac ?_ (Ac ?_ (Az _))
 refine Ask.fresh rfl rfl ?_
 intro aq wq hNq hO hR hT
 exact does_box (V := Dg.val (m)) (oT hO s0_0 rfl) (fun b w2 he hlo hb => ⟨he, ⟨b, rfl, Nat.le_trans hR.size' hlo, hb⟩, ⟨b, rfl, hlo, hb.lt⟩⟩)
 exact Ap fun aq wq _ hO hR hT => does_assign (V := Value.slice none 0 0) rfl eR
 intro a1 wd1 N1 D1 hO hR hA hU
 obtain ⟨t1, _, _⟩ := hA
 have E1 := E0.trans hR
 obtain ⟨b1, s1_1, lo_b1, B1_1⟩ := t1
 have fr_b1 : w0.heap.size ≤ b1 := Nat.le_trans E0.size' lo_b1
 clear E0 N0 D0 s0_0
 refine tail_nil ?_
 refine wp_seq ?_
 refine Rl [] [(9, Pr.own' NI wd1.heap.size 3 ([])), (3, Pr.own' NI wd1.heap.size 3 ([]))] 2 N1 D1 ?_ ?_
 refine Ac ?_ (Ac ?_ (Az _))
 exact Ap fun aq wq _ hO hR hT => does_make0 (T := NI) (c := 35) app_103 rfl rfl rfl (by omega) (by unfold maxLen; omega) (fun v w2 he _ ho => ⟨he, OwnT.base ho hR.size'⟩)
 exact Ap fun aq wq _ hO hR hT => does_assign rfl ⟨Ext.refl _, (hT 9 rfl rfl)⟩
 intro a2 wd2 N2 D2 hO hR hA hU
 obtain ⟨_, t3, _⟩ := hA
 have E2 := E1.trans hR
 have s1_2 := oT hO s1_1 rfl
 have B1_2 := B1_1.ext' hR
 obtain ⟨x3, s3_2⟩ : ∃ x, get a2 3 = x := ⟨_, rfl⟩
 replace t3 : OwnT NI wd1.heap.size 3 ([]) x3 wd2 := by rw [← s3_2]; exact t3
 have nbo_x3_b1 := Ob1 t3 B1_1
 have X3_2 := t3.sl.wide (Nat.zero_le _) (.inl rfl)
 have O3_2 := OwnT.base t3 E1.size'
 clear E1 N1 D1 s1_1 B1_1
 refine tail_nil ?_
 refine wp_seq ?_
 refine Rl [] [(4, Pr.ex (i64 ((0 : Nat) : Int)))] 1 N2 D2 ?_ ?_
 refine Ac ?_ (Az _)
 exact Ap fun aq wq _ hO hR hT => does_assign (V := i64 ((0 : Nat) : Int)) rfl eR
 intro a3 wd3 N3 D3 hO hR hA hU
 obtain ⟨t4, _⟩ := hA
 have E3 := E2.trans hR
 have s1_3 := oT hO s1_2 rfl
 have s3_3 := oT hO s3_2 rfl
 have B1_3 := B1_2.ext' hR
 have X3_3 := X3_2.ext' hR
 have O3_3 := O3_2.ext' hR
 have s4_3 : get a3 4 = i64 ((0 : Nat) : Int) := t4
 clear E2 N2 D2 s1_2 s3_2 B1_2 X3_2 O3_2
 refine tail_nil ?_
 refine wp_seq ?_
 refine wp_seq ?_
 refine Rl [] [(10, Pr.ex (Dg.val (m))), (11, Pr.ex (i64 ((0 : Nat) : Int)))] 2 N3 D3 ?_ ?_
 refine Ac ?_ (Ac ?_ (Az _))
 exact Ap fun aq wq _ hO hR hT => does_loadD (o := 0) (n := 4) (mid := [w32 (m).a, w32 (m).b, w32 (m).c, w32 (m).d]) (oT hO s1_3 rfl) (B1_3.ext' hR) rfl rfl (nB rfl) row_24 rfl eR
 exact Ap fun aq wq _ hO hR hT => does_move (V := i64 ((0 : Nat) : Int)) rfl eR
 intro a4 wd4 N4 D4 hO hR hA hU
 obtain ⟨t10, t11, _⟩ := hA
 have E4 := E3.trans hR
 have s3_4 := oT hO s3_3 rfl
 have s4_4 := oT hO s4_3 rfl
 have B1_4 := B1_3.ext' hR
 have X3_4 := X3_3.ext' hR
 have O3_4 := O3_3.ext' hR
 have s10_4 : get a4 10 = Dg.val (m) := t10
 have s11_4 : get a4 11 = i64 ((0 : Nat) : Int) := t11
 clear E3 N3 D3 s1_3 s3_3 s4_3 B1_3 X3_3 O3_3
 refine tail_nil ?_
 refine wp_block ?_
 refine loop_g (fun mz az wz => ∃ k : Nat, ∃ xo : Value, mz = 4 - k ∧ (az.tmps.size = 43) ∧ (az.defers = []) ∧ (get az 3 = xo) ∧ (get az 4 = i64 ((lacks ((digits m).take (8 * k)) : Nat) : Int)) ∧ (get az 10 = Dg.val (m)) ∧ (get az 11 = i64 (k : Int)) ∧ (Ext w0 wz) ∧ (Has wz b1 24 [w32 (m).a, w32 (m).b, w32 (m).c, w32 (m).d]) ∧ (OwnT NI w0.heap.size 3 ((digits m).take (8 * k)) xo wz) ∧ (xo.ownBlock ≠ some b1) ∧ (k ≤ 4)) ?_ ?_
 exact ⟨_, 0, x3, rfl, N4, D4, s3_4, s4_4, s10_4, s11_4, E4, B1_4, O3_4, nbo_x3_b1, Nat.zero_le _⟩
 rintro mz a5 wd5 ⟨k, xo, rfl, N5, D5, s3_5, s4_5, s10_5, s11_5, E5, B1_5, hoxo_5, nbo_xo_b1, hk⟩
 have hsxo_5 := hoxo_5.sl.wide (Nat.zero_le _) (.inl rfl)
 refine wp_seq ?_
 refine Rl [] [(12, Pr.ex (Value.bool (decide ((k : Int) < ((4 : Nat) : Int)))))] 1 N5 D5 ?_ ?_
 refine Ac ?_ (Az _)
 exact Ap fun aq wq _ hO hR hT => does_lss (a := (k : Int)) (b := ((4 : Nat) : Int)) (oT hO s11_5 rfl) rfl eR
 intro a6 wd6 N6 D6 hO hR hA hU
 obtain ⟨t12, _⟩ := hA
 have E6 := E5.trans hR
 have s3_6 := oT hO s3_5 rfl
 have s4_6 := oT hO s4_5 rfl
 have s10_6 := oT hO s10_5 rfl
 have s11_6 := oT hO s11_5 rfl
 have B1_6 := B1_5.ext' hR
 have hsxo_6 := hsxo_5.ext' hR
 have hoxo_6 := hoxo_5.ext' hR
 have s12_6 : get a6 12 = Value.bool (decide ((k : Int) < ((4 : Nat) : Int))) := t12
 clear E5 N5 D5 s3_5 s4_5 s10_5 s11_5 B1_5 hsxo_5 hoxo_5
 refine tail_nil ?_
 refine wp_seq ?_
 refine wp_if (B := decide ((k : Int) < ((4 : Nat) : Int))) s12_6 (fun hc0 => ?_) (fun hc0 => ?_)
 have hc0 := of_decide_eq_true hc0
 have hk4 : k < 4 := by omega
 refine wp_skip ?_
 refine wp_seq ?_
 refine wp_block ?_
 refine wp_seq ?_
 refine Rl [] [(13, Pr.ex (w32 (Dg.at m k))), (6, Pr.ex (w32 (Dg.at m k)))] 2 N6 D6 ?_ ?_
 refine Ac ?_ (Ac ?_ (Az _))
 exact Ap fun aq wq _ hO hR hT => does_indexDg (m := m) (i := (k : Int)) arr_24 one_22 (oT hO s10_6 rfl) (oT hO s11_6 rfl) (by omega) (by omega) eR
 exact Ap fun aq wq _ hO hR hT => does_assign (V := w32 (Dg.at m k)) (hT 13 rfl rfl) eR
 intro a7 wd7 N7 D7 hO hR hA hU
 obtain ⟨_, t6, _⟩ := hA
 have E7 := E6.trans hR
 have s3_7 := oT hO s3_6 rfl
 have s4_7 := oT hO s4_6 rfl
 have s10_7 := oT hO s10_6 rfl
 have s11_7 := oT hO s11_6 rfl
 have B1_7 := B1_6.ext' hR
 have hsxo_7 := hsxo_6.ext' hR
 have hoxo_7 := hoxo_6.ext' hR
 have s6_7 : get a7 6 = w32 (Dg.at m k) := t6
 clear E6 N6 D6 s3_6 s4_6 s10_6 s11_6 s12_6 B1_6 hsxo_6 hoxo_6
 refine tail_nil ?_
 refine wp_seq ?_
 refine Rl [] [(7, Pr.ex (i64 ((28 : Nat) : Int)))] 1 N7 D7 ?_ ?_
 refine Ac ?_ (Az _)
 exact Ap fun aq wq _ hO hR hT => does_assign (V := i64 ((28 : Nat) : Int)) rfl eR
 intro a8 wd8 N8 D8 hO hR hA hU
 obtain ⟨t7, _⟩ := hA
 have E8 := E7.trans hR
 have s3_8 := oT hO s3_7 rfl
 have s4_8 := oT hO s4_7 rfl
 have s6_8 := oT hO s6_7 rfl
 have s10_8 := oT hO s10_7 rfl
 have s11_8 := oT hO s11_7 rfl
 have B1_8 := B1_7.ext' hR
 have hsxo_8 := hsxo_7.ext' hR
 have hoxo_8 := hoxo_7.ext' hR
 have s7_8 : get a8 7 = i64 ((28 : Nat) : Int) := t7
 clear E7 N7 D7 s3_7 s4_7 s6_7 s10_7 s11_7 B1_7 hsxo_7 hoxo_7
 refine tail_nil ?_
 refine wp_block ?_
 refine loop_g (fun mz az wz => ∃ j : Nat, ∃ xp : Value, mz = 8 - j ∧ (az.tmps.size = 43) ∧ (az.defers = []) ∧ (get az 3 = xp) ∧ (get az 4 = i64 ((lacks ((digits m).take (8 * k + j)) : Nat) : Int)) ∧ (get az 6 = w32 (Dg.at m k)) ∧ (get az 7 = i64 (28 - 4 * (j : Int))) ∧ (get az 10 = Dg.val (m)) ∧ (get az 11 = i64 (k : Int)) ∧ (Ext w0 wz) ∧ (Has wz b1 24 [w32 (m).a, w32 (m).b, w32 (m).c, w32 (m).d]) ∧ (OwnT NI w0.heap.size 3 ((digits m).take (8 * k + j)) xp wz) ∧ (xp.ownBlock ≠ some b1) ∧ (j ≤ 8)) ?_ ?_
 exact ⟨_, 0, xo, rfl, N8, D8, s3_8, s4_8, s6_8, s7_8, s10_8, s11_8, E8, B1_8, hoxo_8, nbo_xo_b1, Nat.zero_le _⟩
 rintro mz a9 wd9 ⟨j, xp, rfl, N9, D9, s3_9, s4_9, s6_9, s7_9, s10_9, s11_9, E9, B1_9, hoxp_9, nbo_xp_b1, hj⟩
 have hsxp_9 := hoxp_9.sl.wide (Nat.zero_le _) (.inl rfl)
 refine wp_seq ?_
 refine wp_seq ?_
 refine Rl [] [(14, Pr.ex (i64 (28 - 4 * (j : Int)))), (15, Pr.ex (Value.bool (decide (((0 : Nat) : Int) ≤ 28 - 4 * (j : Int)))))] 2 N9 D9 ?_ ?_
 refine Ac ?_ (Ac ?_ (Az _))
 exact Am s7_9 rfl fun _ => rfl
 exact Ap fun aq wq _ hO hR hT => does_geq (a := 28 - 4 * (j : Int)) (b := ((0 : Nat) : Int)) (hT 14 rfl rfl) rfl eR
 intro a10 wd10 N10 D10 hO hR hA hU
 obtain ⟨_, t15, _⟩ := hA
 have E10 := E9.trans hR
 have s3_10 := oT hO s3_9 rfl
 have s4_10 := oT hO s4_9 rfl
 have s6_10 := oT hO s6_9 rfl
 have s7_10 := oT hO s7_9 rfl
 have s10_10 := oT hO s10_9 rfl
 have s11_10 := oT hO s11_9 rfl
 have B1_10 := B1_9.ext' hR
 have hsxp_10 := hsxp_9.ext' hR
 have hoxp_10 := hoxp_9.ext' hR
 have s15_10 : get a10 15 = Value.bool (decide (((0 : Nat) : Int) ≤ 28 - 4 * (j : Int))) := t15
 clear E9 N9 D9 s3_9 s4_9 s6_9 s7_9 s10_9 s11_9 B1_9 hsxp_9 hoxp_9
 refine tail_nil ?_
 refine wp_if (B := decide (((0 : Nat) : Int) ≤ 28 - 4 * (j : Int))) s15_10 (fun hc1 => ?_) (fun hc1 => ?_)
 have hc1 := of_decide_eq_true hc1
 have hj8 : j < 8 := by omega
 have hdl := dig_le m k j
 have hls := lacks_small m (8 * k + j)
 have hls2 := lacks_dig m hk4 hj8
 have hls3 := lacks_small m (8 * k + (j + 1))
 refine wp_skip ?_
 refine wp_seq ?_
 refine wp_block ?_
 refine wp_seq ?_
 refine Rl [] [(18, Pr.ex (w32 (Dg.at m k))), (19, Pr.ex (i64 (28 - 4 * (j : Int)))), (20, Pr.ex (w32 (UInt32.ofNat ((Dg.at m k).toNat / 2 ^ (28 - 4 * j))))), (21, Pr.ex (Value.int .u32 (((dig m k j : Nat) : Int)))), (22, Pr.ex (i64 ((dig m k j : Nat) : Int))), (8, Pr.ex (i64 ((dig m k j : Nat) : Int)))] 6 N10 D10 ?_ ?_
 refine Ac ?_ (Ac ?_ (Ac ?_ (Ac ?_ (Ac ?_ (Ac ?_ (Az _))))))
 exact Am s6_10 rfl fun _ => rfl
 exact Am s7_10 rfl fun _ => rfl
 exact Ap fun aq wq _ hO hR hT => does_shr32 (b := 28 - 4 * j) (hT 18 rfl rfl) ((hT 19 rfl rfl).trans (congrArg (Value.int .i64) (by omega))) (by omega) eR
 exact Ap fun aq wq _ hO hR hT => does_band (r := ((dig m k j : Nat) : Int)) (hT 20 rfl rfl) rfl (by rw [u32_div, and15_32 _ (by have h1 := (Dg.at m k).toNat_lt; have h2 := Nat.div_le_self (Dg.at m k).toNat (2 ^ (28 - 4 * j)); omega)]; rfl) eR
 exact Ap fun aq wq _ hO hR hT => does_conv ⟨_, Tryd.underlying22⟩ Tryd.underlying3 (hT 21 rfl rfl) (IntWalk.i64_in _ ⟨by have := dig_le m k j; omega, by have := dig_le m k j; omega⟩) eR
 exact Ap fun aq wq _ hO hR hT => does_assign (V := i64 ((dig m k j : Nat) : Int)) (hT 22 rfl rfl) eR
 intro a11 wd11 N11 D11 hO hR hA hU
 obtain ⟨_, _, _, _, _, t8, _⟩ := hA
 have E11 := E10.trans hR
 have s3_11 := oT hO s3_10 rfl
 have s4_11 := oT hO s4_10 rfl
 have s6_11 := oT hO s6_10 rfl
 have s7_11 := oT hO s7_10 rfl
 have s10_11 := oT hO s10_10 rfl
 have s11_11 := oT hO s11_10 rfl
 have B1_11 := B1_10.ext' hR
 have hsxp_11 := hsxp_10.ext' hR
 have hoxp_11 := hoxp_10.ext' hR
 have s8_11 : get a11 8 = i64 ((dig m k j : Nat) : Int) := t8
 clear E10 N10 D10 s3_10 s4_10 s6_10 s7_10 s10_10 s11_10 s15_10 B1_10 hsxp_10 hoxp_10
 refine tail_nil ?_
 refine wp_seq ?_
 refine Rl [] [(23, Pr.ex (xp)), (24, Pr.ex (i64 ((dig m k j : Nat) : Int))), (25, Pr.own' NI wd11.heap.size 3 ([dig m k j]))] 3 N11 D11 ?_ ?_
 refine Ac ?_ (Ac ?_ (Ac ?_ (Az _)))
 exact Am s3_11 rfl fun _ => rfl
 exact Am s8_11 rfl fun _ => rfl
 exact Ap fun aq wq _ hO hR hT => does_slice1 (T := NI) (X := dig m k j) (V := i64 ((dig m k j : Nat) : Int)) app_103 rfl (by decide) (hT 24 rfl rfl) rfl (fun v w2 he _ ho => ⟨he, OwnT.base ho hR.size'⟩)
 intro a12 wd12 N12 D12 hO hR hA hU
 obtain ⟨t23, _, t25, _⟩ := hA
 have E12 := E11.trans hR
 have s3_12 := oT hO s3_11 rfl
 have s4_12 := oT hO s4_11 rfl
 have s6_12 := oT hO s6_11 rfl
 have s7_12 := oT hO s7_11 rfl
 have s8_12 := oT hO s8_11 rfl
 have s10_12 := oT hO s10_11 rfl
 have s11_12 := oT hO s11_11 rfl
 have B1_12 := B1_11.ext' hR
 have hsxp_12 := hsxp_11.ext' hR
 have hoxp_12 := hoxp_11.ext' hR
 have s23_12 : get a12 23 = xp := t23
 obtain ⟨x25, s25_12⟩ : ∃ x, get a12 25 = x := ⟨_, rfl⟩
 replace t25 : OwnT NI wd11.heap.size 3 ([dig m k j]) x25 wd12 := by rw [← s25_12]; exact t25
 have nbo_x25_b1 := Ob1 t25 B1_11
 have no_x25_xp := Oo t25 hoxp_11
 have X25_12 := t25.sl.wide (Nat.zero_le _) (.inl rfl)
 have O25_12 := OwnT.base t25 E11.size'
 clear E11 N11 D11 s3_11 s4_11 s6_11 s7_11 s8_11 s10_11 s11_11 B1_11 hsxp_11 hoxp_11
 refine tail_put rfl rfl N12 D12 (by decide) (does_append (T := NI) (base := w0.heap.size) (xs := (digits m).take (8 * k + j)) (ys := [dig m k j]) (v := xp) app_103 s23_12 hoxp_12 (SlT.at s25_12 X25_12) (by simp) (by simp only [List.length_take, List.length_cons, List.length_nil, digits_length]; omega) (by simp only [List.length_take, List.length_cons, List.length_nil, digits_length]; omega) E12.size' (fun x26 wd13 hX O26_13 hk a13 N13 D13 hv hO => ?_))
 have E13 := E12.since hX (fun b hb => Nat.le_trans (Nat.le_refl _) (OwnT.block_lt hoxp_12 hb).1)
 have B1_13 := B1_12.ext hX nbo_xp_b1
 have nbo_x26_b1 : x26.ownBlock ≠ some b1 := fun e => (hk _ e).elim nbo_xp_b1 (fun h => Nat.lt_irrefl _ (Nat.lt_of_lt_of_le B1_12.lt h))
 have O25_13 := OwnT.ext O25_12 hX (fun k hk e => no_x25_xp k hk e)
 have no_x26_x25 : ∀ k, x26.ownBlock = some k → x25.ownBlock ≠ some k := fun k e e' => (hk k e).elim (fun h => no_x25_xp k e' h) (fun h => Nat.lt_irrefl _ (Nat.lt_of_lt_of_le (OwnT.block_lt O25_12 e').2 h))
 have X25_13 := O25_13.sl.wide (Nat.zero_le _) (.inl rfl)
 have X26_13 := O26_13.sl.wide (Nat.zero_le _) (.inl rfl)
 rw [take_dig m hk4 hj8] at O26_13 X26_13
 have s26_13 := hv
 have s3_13 := oT hO s3_12 rfl
 have s4_13 := oT hO s4_12 rfl
 have s6_13 := oT hO s6_12 rfl
 have s7_13 := oT hO s7_12 rfl
 have s8_13 := oT hO s8_12 rfl
 have s10_13 := oT hO s10_12 rfl
 have s11_13 := oT hO s11_12 rfl
 clear hO hv hX hk N12 D12 E12 B1_12 O25_12 s3_12 s4_12 s6_12 s7_12 s8_12 s10_12 s11_12 s23_12 s25_12
 refine tail_put rfl rfl N13 D13 (by decide) (does_assign (V := x26) s26_13 (fun a14 N14 D14 hv hO => ?_))
 have s3_14 := hv
 have s4_14 := oT hO s4_13 rfl
 have s6_14 := oT hO s6_13 rfl
 have s7_14 := oT hO s7_13 rfl
 have s8_14 := oT hO s8_13 rfl
 have s10_14 := oT hO s10_13 rfl
 have s11_14 := oT hO s11_13 rfl
 clear hO hv N13 D13 s4_13 s6_13 s7_13 s8_13 s10_13 s11_13 s26_13 s3_13
 refine tail_nil ?_
 refine Rl [] [(27, Pr.ex (i64 ((lacks ((digits m).take (8 * k + j)) : Nat) : Int))), (28, Pr.ex (i64 ((dig m k j : Nat) : Int))), (29, Pr.ex (i64 ((15 - (dig m k j) : Nat) : Int))), (30, Pr.ex (i64 (((lacks ((digits m).take (8 * k + j))) + (15 - (dig m k j)) : Nat) : Int)))] 4 N14 D14 ?_ ?_
 refine Ac ?_ (Ac ?_ (Ac ?_ (Ac ?_ (Az _))))
 exact Am s4_14 rfl fun _ => rfl
 exact Am s8_14 rfl fun _ => rfl
 exact Ap fun aq wq _ hO hR hT => does_sub (a := ((15 : Nat) : Int)) (b := ((dig m k j : Nat) : Int)) (r := ((15 - (dig m k j) : Nat) : Int)) rfl (hT 28 rfl rfl) (by omega) (by omega) (by omega) eR
 exact Ap fun aq wq _ hO hR hT => does_add (a := ((lacks ((digits m).take (8 * k + j)) : Nat) : Int)) (b := ((15 - (dig m k j) : Nat) : Int)) (r := (((lacks ((digits m).take (8 * k + j))) + (15 - (dig m k j)) : Nat) : Int)) (hT 27 rfl rfl) (hT 29 rfl rfl) (by omega) (by omega) (by omega) eR
 intro a15 wd15 N15 D15 hO hR hA hU
 obtain ⟨_, _, _, t30, _⟩ := hA
 have E15 := E13.trans hR
 have s3_15 := oT hO s3_14 rfl
 have s4_15 := oT hO s4_14 rfl
 have s6_15 := oT hO s6_14 rfl
 have s7_15 := oT hO s7_14 rfl
 have s10_15 := oT hO s10_14 rfl
 have s11_15 := oT hO s11_14 rfl
 have B1_15 := B1_13.ext' hR
 have X25_15 := X25_13.ext' hR
 have X26_15 := X26_13.ext' hR
 have O25_15 := O25_13.ext' hR
 have O26_15 := O26_13.ext' hR
 have s30_15 : get a15 30 = i64 (((lacks ((digits m).take (8 * k + j))) + (15 - (dig m k j)) : Nat) : Int) := t30
 clear E13 N14 D14 s3_14 s4_14 s6_14 s7_14 s8_14 s10_14 s11_14 B1_13 X25_13 X26_13 O25_13 O26_13
 refine tail_put rfl rfl N15 D15 (by decide) (does_assign (V := i64 (((lacks ((digits m).take (8 * k + j))) + (15 - (dig m k j)) : Nat) : Int)) s30_15 (fun a16 N16 D16 hv hO => ?_))
 have s4_16 := hv
 have s3_16 := oT hO s3_15 rfl
 have s6_16 := oT hO s6_15 rfl
 have s7_16 := oT hO s7_15 rfl
 have s10_16 := oT hO s10_15 rfl
 have s11_16 := oT hO s11_15 rfl
 clear hO hv N15 D15 s3_15 s6_15 s7_15 s10_15 s11_15 s30_15 s4_15
 refine tail_nil ?_
 refine Rl [] [(16, Pr.ex (i64 (28 - 4 * (j : Int)))), (17, Pr.ex (i64 ((28 - 4 * (j : Int)) - (((4 : Nat) : Int)))))] 2 N16 D16 ?_ ?_
 refine Ac ?_ (Ac ?_ (Az _))
 exact Am s7_16 rfl fun _ => rfl
 exact Ap fun aq wq _ hO hR hT => does_sub (a := 28 - 4 * (j : Int)) (b := ((4 : Nat) : Int)) (r := (28 - 4 * (j : Int)) - (((4 : Nat) : Int))) (hT 16 rfl rfl) rfl rfl (by omega) (by omega) eR
 intro a17 wd17 N17 D17 hO hR hA hU
 obtain ⟨_, t17, _⟩ := hA
 have E17 := E15.trans hR
 have s3_17 := oT hO s3_16 rfl
 have s4_17 := oT hO s4_16 rfl
 have s6_17 := oT hO s6_16 rfl
 have s7_17 := oT hO s7_16 rfl
 have s10_17 := oT hO s10_16 rfl
 have s11_17 := oT hO s11_16 rfl
 have B1_17 := B1_15.ext' hR
 have X25_17 := X25_15.ext' hR
 have X26_17 := X26_15.ext' hR
 have O25_17 := O25_15.ext' hR
 have O26_17 := O26_15.ext' hR
 have s17_17 : get a17 17 = i64 ((28 - 4 * (j : Int)) - (((4 : Nat) : Int))) := t17
 clear E15 N16 D16 s3_16 s4_16 s6_16 s7_16 s10_16 s11_16 B1_15 X25_15 X26_15 O25_15 O26_15
 refine tail_put rfl rfl N17 D17 (by decide) (does_assign (V := i64 ((28 - 4 * (j : Int)) - (((4 : Nat) : Int)))) s17_17 (fun a18 N18 D18 hv hO => ?_))
 have s7_18 := hv
 have s3_18 := oT hO s3_17 rfl
 have s4_18 := oT hO s4_17 rfl
 have s6_18 := oT hO s6_17 rfl
 have s10_18 := oT hO s10_17 rfl
 have s11_18 := oT hO s11_17 rfl
 clear hO hv N17 D17 s3_17 s4_17 s6_17 s10_17 s11_17 s17_17 s7_17
 refine tail_nil ?_
 exact ⟨_, by omega, j + 1, x26, rfl, N18, D18, s3_18, (by rw [← hls2]; exact s4_18), s6_18, (by rw [s7_18]; congr 1; omega), s10_18, s11_18, E17, B1_17, O26_17, nbo_x26_b1, by omega⟩
 have hc1 := of_decide_eq_false hc1
 have hj8 : j = 8 := by omega
 refine wp_exit ?_
 refine Rl [] [(31, Pr.ex (i64 ((k + 1 : Nat) : Int)))] 1 N10 D10 ?_ ?_
 refine Ac ?_ (Az _)
 exact Ap fun aq wq _ hO hR hT => does_add (a := (k : Int)) (b := ((1 : Nat) : Int)) (r := ((k + 1 : Nat) : Int)) (oT hO s11_10 rfl) rfl (by omega) (by omega) (by omega) eR
 intro a19 wd19 N19 D19 hO hR hA hU
 obtain ⟨t31, _⟩ := hA
 have E19 := E10.trans hR
 have s3_19 := oT hO s3_10 rfl
 have s4_19 := oT hO s4_10 rfl
 have s10_19 := oT hO s10_10 rfl
 have s11_19 := oT hO s11_10 rfl
 have B1_19 := B1_10.ext' hR
 have hsxp_19 := hsxp_10.ext' hR
 have hoxp_19 := hoxp_10.ext' hR
 have s31_19 : get a19 31 = i64 ((k + 1 : Nat) : Int) := t31
 clear E10 N10 D10 s3_10 s4_10 s6_10 s7_10 s10_10 s11_10 s15_10 B1_10 hsxp_10 hoxp_10
 refine tail_put rfl rfl N19 D19 (by decide) (does_move (V := i64 ((k + 1 : Nat) : Int)) s31_19 (fun a20 N20 D20 hv hO => ?_))
 have s11_20 := hv
 have s3_20 := oT hO s3_19 rfl
 have s4_20 := oT hO s4_19 rfl
 have s10_20 := oT hO s10_19 rfl
 clear hO hv N19 D19 s3_19 s4_19 s10_19 s31_19 s11_19
 refine tail_nil ?_
 exact ⟨_, by omega, k + 1, xp, rfl, N20, D20, s3_20, (by rw [show 8 * (k + 1) = 8 * k + j by omega]; exact s4_20), s10_20, s11_20, E19, B1_19, (by rw [show 8 * (k + 1) = 8 * k + j by omega]; exact hoxp_19), nbo_xp_b1, by omega⟩
 have hc0 := of_decide_eq_false hc0
 have hdt := digits_all m (n := 8 * k) (by omega)
 have hda : lacks ((digits m).take (8 * k)) = lacks (digits m) := by rw [hdt]
 have hlt := lacks_small m (8 * k)
 rw [hda] at hlt
 refine wp_exit ?_
 refine wp_seq ?_
 refine Rl [] [(32, Pr.ex (xo)), (33, Pr.ex (i64 ((lacks ((digits m).take (8 * k)) : Nat) : Int))), (34, Pr.ex (i64 ((lacks (digits m) / 256 : Nat) : Int))), (35, Pr.ex (i64 ((lacks (digits m) / 256 % 16 : Nat) : Int))), (36, Pr.ex (i64 ((lacks ((digits m).take (8 * k)) : Nat) : Int))), (37, Pr.ex (i64 ((lacks (digits m) / 16 : Nat) : Int))), (38, Pr.ex (i64 ((lacks (digits m) / 16 % 16 : Nat) : Int))), (39, Pr.ex (i64 ((lacks ((digits m).take (8 * k)) : Nat) : Int))), (40, Pr.ex (i64 ((lacks (digits m) % 16 : Nat) : Int))), (41, Pr.own' NI wd6.heap.size 3 ([lacks (digits m) / 256 % 16, lacks (digits m) / 16 % 16, lacks (digits m) % 16]))] 10 N6 D6 ?_ ?_
 refine Ac ?_ (Ac ?_ (Ac ?_ (Ac ?_ (Ac ?_ (Ac ?_ (Ac ?_ (Ac ?_ (Ac ?_ (Ac ?_ (Az _))))))))))
 exact Am s3_6 rfl fun _ => rfl
 exact Am s4_6 rfl fun _ => rfl
 exact Ap fun aq wq _ hO hR hT => does_shr (a := ((lacks ((digits m).take (8 * k)) : Nat) : Int)) (b := 8) (r := ((lacks (digits m) / 256 : Nat) : Int)) (hT 33 rfl rfl) rfl (by decide) (by decide) (by rw [hda, show (2 : Int) ^ (8 : Int).toNat = 256 from rfl]; omega) eR
 exact Ap fun aq wq _ hO hR hT => does_band (r := ((lacks (digits m) / 256 % 16 : Nat) : Int)) (hT 34 rfl rfl) rfl (and15_64 _ (by omega)) eR
 exact Am s4_6 rfl fun _ => rfl
 exact Ap fun aq wq _ hO hR hT => does_shr (a := ((lacks ((digits m).take (8 * k)) : Nat) : Int)) (b := 4) (r := ((lacks (digits m) / 16 : Nat) : Int)) (hT 36 rfl rfl) rfl (by decide) (by decide) (by rw [hda, show (2 : Int) ^ (4 : Int).toNat = 16 from rfl]; omega) eR
 exact Ap fun aq wq _ hO hR hT => does_band (r := ((lacks (digits m) / 16 % 16 : Nat) : Int)) (hT 37 rfl rfl) rfl (and15_64 _ (by omega)) eR
 exact Am s4_6 rfl fun _ => rfl
 exact Ap fun aq wq _ hO hR hT => does_band (r := ((lacks (digits m) % 16 : Nat) : Int)) (hT 39 rfl rfl) rfl (by rw [hda]; exact and15_64 _ (by omega)) eR
 exact Ap fun aq wq _ hO hR hT => does_sliceN (T := NI) (xs := [lacks (digits m) / 256 % 16, lacks (digits m) / 16 % 16, lacks (digits m) % 16]) (vs := [i64 ((lacks (digits m) / 256 % 16 : Nat) : Int), i64 ((lacks (digits m) / 16 % 16 : Nat) : Int), i64 ((lacks (digits m) % 16 : Nat) : Int)]) app_103 rfl (parts3 (hT 35 rfl rfl) (hT 38 rfl rfl) (hT 40 rfl rfl)) rfl (by decide) (by decide) rfl (fun v w2 he _ ho => ⟨he, OwnT.base ho hR.size'⟩)
 intro a21 wd21 N21 D21 hO hR hA hU
 obtain ⟨t32, _, _, _, _, _, _, _, _, t41, _⟩ := hA
 have E21 := E6.trans hR
 have B1_21 := B1_6.ext' hR
 have hsxo_21 := hsxo_6.ext' hR
 have hoxo_21 := hoxo_6.ext' hR
 have s32_21 : get a21 32 = xo := t32
 obtain ⟨x41, s41_21⟩ : ∃ x, get a21 41 = x := ⟨_, rfl⟩
 replace t41 : OwnT NI wd6.heap.size 3 ([lacks (digits m) / 256 % 16, lacks (digits m) / 16 % 16, lacks (digits m) % 16]) x41 wd21 := by rw [← s41_21]; exact t41
 have nbo_x41_b1 := Ob1 t41 B1_6
 have no_x41_xo := Oo t41 hoxo_6
 have X41_21 := t41.sl.wide (Nat.zero_le _) (.inl rfl)
 have O41_21 := OwnT.base t41 E6.size'
 clear E6 N6 D6 s3_6 s4_6 s10_6 s11_6 s12_6 B1_6 hsxo_6 hoxo_6
 refine tail_put rfl rfl N21 D21 (by decide) (does_append (T := NI) (base := w0.heap.size) (xs := (digits m).take (8 * k)) (ys := [lacks (digits m) / 256 % 16, lacks (digits m) / 16 % 16, lacks (digits m) % 16]) (v := xo) app_103 s32_21 hoxo_21 (SlT.at s41_21 X41_21) (by simp) (by simp only [List.length_take, List.length_cons, List.length_nil, digits_length]; omega) (by simp only [List.length_take, List.length_cons, List.length_nil, digits_length]; omega) E21.size' (fun x42 wd22 hX O42_22 hk a22 N22 D22 hv hO => ?_))
 have E22 := E21.since hX (fun b hb => Nat.le_trans (Nat.le_refl _) (OwnT.block_lt hoxo_21 hb).1)
 have B1_22 := B1_21.ext hX nbo_xo_b1
 have nbo_x42_b1 : x42.ownBlock ≠ some b1 := fun e => (hk _ e).elim nbo_xo_b1 (fun h => Nat.lt_irrefl _ (Nat.lt_of_lt_of_le B1_21.lt h))
 have O41_22 := OwnT.ext O41_21 hX (fun k hk e => no_x41_xo k hk e)
 have no_x42_x41 : ∀ k, x42.ownBlock = some k → x41.ownBlock ≠ some k := fun k e e' => (hk k e).elim (fun h => no_x41_xo k e' h) (fun h => Nat.lt_irrefl _ (Nat.lt_of_lt_of_le (OwnT.block_lt O41_21 e').2 h))
 have X41_22 := O41_22.sl.wide (Nat.zero_le _) (.inl rfl)
 have X42_22 := O42_22.sl.wide (Nat.zero_le _) (.inl rfl)
 rw [(show (digits m).take (8 * k) ++ [lacks (digits m) / 256 % 16, lacks (digits m) / 16 % 16, lacks (digits m) % 16] = steps m from by rw [hdt]; rfl)] at O42_22 X42_22
 have s42_22 := hv
 clear hO hv hX hk N21 D21 E21 B1_21 O41_21 s32_21 s41_21
 refine tail_put rfl rfl N22 D22 (by decide) (does_assign (V := x42) s42_22 (fun a23 N23 D23 hv hO => ?_))
 have s2_23 := hv
 clear hO hv N22 D22 s42_22
 refine tail_nil ?_
 refine wp_ret ?_
 refine res_one (V := x42) rfl D23 s2_23 ?_
 exact ⟨O42_22, E22⟩

end Go.Proofs.YtmmghpbncejfiaaDoor
