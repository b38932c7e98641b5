/- The walks of functions of the program: printed. -/
import Derived.Test.YtmmghpbncejfiaaDoorKB
import Derived.Test.YtmmghpbncejfiaaDoorG98
import Derived.Test.YtmmghpbncejfiaaDoorF0
set_option maxRecDepth 100000
namespace Go.Proofs.YtmmghpbncejfiaaDoor
open Go Go.RowKit Sk Sd
theorem keysR (seed : Dg) (h : Nat) (w0 : World) (hh : h ≤ 4) :
    Gives Tryd.prog 46 #[Dg.val (seed), i64 (h : Int)] w0 (Pr.own' DG w0.heap.size 24 (publics seed (pw h))) := by
 refine enter (N := 29) Tryd.func46 rfl rfl ?_
 intro a0 N0 D0 hA
 have s0_0 : get a0 0 = Dg.val (seed) := hA 0 _ rfl
 have s1_0 : get a0 1 = i64 (h : Int) := hA 1 _ rfl
 clear hA
 have E0 : Ext w0 w0 := Ext.refl w0
 refine wp_seq ?_
 refine Rl [2] [(2, Pr.box' w0.heap.size 24 [w32 (seed).a, w32 (seed).b, w32 (seed).c, w32 (seed).d]), (4, Pr.ex (Value.slice none 0 0))] 2 N0 D0 ?_ ?_
 refine Ac ?_ (Ac ?_ (Az _))
 refine Ask.fresh rfl rfl ?_
 intro aq wq hNq hO hR hT
 exact does_box (V := Dg.val (seed)) (oT hO s0_0 rfl) (fun b w2 he hlo hb => ⟨he, ⟨b, rfl, Nat.le_trans hR.size' hlo, hb⟩, ⟨b, rfl, hlo, hb.lt⟩⟩)
 exact Ap fun aq wq _ hO hR hT => does_assign (V := Value.slice none 0 0) rfl eR
 intro a1 wd1 N1 D1 hO hR hA hU
 obtain ⟨t2, _, _⟩ := hA
 have E1 := E0.trans hR
 have s1_1 := oT hO s1_0 rfl
 obtain ⟨b2, s2_1, lo_b2, B2_1⟩ := t2
 have fr_b2 : w0.heap.size ≤ b2 := Nat.le_trans E0.size' lo_b2
 clear E0 N0 D0 s0_0 s1_0
 refine tail_nil ?_
 refine wp_seq ?_
 refine Rl [] [(5, Pr.ex (i64 ((1 : Nat) : Int)))] 1 N1 D1 ?_ ?_
 refine Ac ?_ (Az _)
 exact Ap fun aq wq _ hO hR hT => does_assign (V := i64 ((1 : Nat) : Int)) rfl eR
 intro a2 wd2 N2 D2 hO hR hA hU
 obtain ⟨t5, _⟩ := hA
 have E2 := E1.trans hR
 have s1_2 := oT hO s1_1 rfl
 have s2_2 := oT hO s2_1 rfl
 have B2_2 := B2_1.ext' hR
 have s5_2 : get a2 5 = i64 ((1 : Nat) : Int) := t5
 clear E1 N1 D1 s1_1 s2_1 B2_1
 refine tail_nil ?_
 refine wp_seq ?_
 refine wp_seq ?_
 refine Rl [] [(6, Pr.ex (i64 ((0 : Nat) : Int)))] 1 N2 D2 ?_ ?_
 refine Ac ?_ (Az _)
 exact Ap fun aq wq _ hO hR hT => does_assign (V := i64 ((0 : Nat) : Int)) rfl eR
 intro a3 wd3 N3 D3 hO hR hA hU
 obtain ⟨t6, _⟩ := hA
 have E3 := E2.trans hR
 have s1_3 := oT hO s1_2 rfl
 have s2_3 := oT hO s2_2 rfl
 have s5_3 := oT hO s5_2 rfl
 have B2_3 := B2_2.ext' hR
 have s6_3 : get a3 6 = i64 ((0 : Nat) : Int) := t6
 clear E2 N2 D2 s1_2 s2_2 s5_2 B2_2
 refine tail_nil ?_
 refine wp_block ?_
 refine loop_g (fun mz az wz => ∃ k : Nat, mz = h - k ∧ (az.tmps.size = 29) ∧ (az.defers = []) ∧ (get az 1 = i64 (h : Int)) ∧ (get az 2 = Value.pointer (some ⟨b2, 0, none⟩)) ∧ (get az 5 = i64 ((pw k : Nat) : Int)) ∧ (get az 6 = i64 (k : Int)) ∧ (Ext w0 wz) ∧ (Has wz b2 24 [w32 (seed).a, w32 (seed).b, w32 (seed).c, w32 (seed).d]) ∧ (k ≤ h)) ?_ ?_
 exact ⟨_, 0, rfl, N3, D3, s1_3, s2_3, s5_3, s6_3, E3, B2_3, Nat.zero_le _⟩
 rintro mz a4 wd4 ⟨k, rfl, N4, D4, s1_4, s2_4, s5_4, s6_4, E4, B2_4, hk⟩
 refine wp_seq ?_
 refine wp_seq ?_
 refine Rl [] [(9, Pr.ex (i64 (k : Int))), (10, Pr.ex (i64 (h : Int))), (11, Pr.ex (Value.bool (decide ((k : Int) < (h : Int)))))] 3 N4 D4 ?_ ?_
 refine Ac ?_ (Ac ?_ (Ac ?_ (Az _)))
 exact Am s6_4 rfl fun _ => rfl
 exact Am s1_4 rfl fun _ => rfl
 exact Ap fun aq wq _ hO hR hT => does_lss (a := (k : Int)) (b := (h : Int)) (hT 9 rfl rfl) (hT 10 rfl rfl) eR
 intro a5 wd5 N5 D5 hO hR hA hU
 obtain ⟨_, _, t11, _⟩ := hA
 have E5 := E4.trans hR
 have s1_5 := oT hO s1_4 rfl
 have s2_5 := oT hO s2_4 rfl
 have s5_5 := oT hO s5_4 rfl
 have s6_5 := oT hO s6_4 rfl
 have B2_5 := B2_4.ext' hR
 have s11_5 : get a5 11 = Value.bool (decide ((k : Int) < (h : Int))) := t11
 clear E4 N4 D4 s1_4 s2_4 s5_4 s6_4 B2_4
 refine tail_nil ?_
 refine wp_if (B := decide ((k : Int) < (h : Int))) s11_5 (fun hc0 => ?_) (fun hc0 => ?_)
 have hc0 := of_decide_eq_true hc0
 have hpk := pw_small (k := k) (by omega)
 refine wp_skip ?_
 refine wp_seq ?_
 refine wp_block ?_
 refine Rl [] [(14, Pr.ex (i64 ((pw k : Nat) : Int))), (15, Pr.ex (i64 (((pw k) * 2 : Nat) : Int)))] 2 N5 D5 ?_ ?_
 refine Ac ?_ (Ac ?_ (Az _))
 exact Am s5_5 rfl fun _ => rfl
 exact Ap fun aq wq _ hO hR hT => does_mul (a := ((pw k : Nat) : Int)) (b := ((2 : Nat) : Int)) (r := (((pw k) * 2 : Nat) : Int)) (hT 14 rfl rfl) rfl (by simp) (by omega) (by omega) eR
 intro a6 wd6 N6 D6 hO hR hA hU
 obtain ⟨_, t15, _⟩ := hA
 have E6 := E5.trans hR
 have s1_6 := oT hO s1_5 rfl
 have s2_6 := oT hO s2_5 rfl
 have s5_6 := oT hO s5_5 rfl
 have s6_6 := oT hO s6_5 rfl
 have B2_6 := B2_5.ext' hR
 have s15_6 : get a6 15 = i64 (((pw k) * 2 : Nat) : Int) := t15
 clear E5 N5 D5 s1_5 s2_5 s5_5 s6_5 s11_5 B2_5
 refine tail_put rfl rfl N6 D6 (by decide) (does_assign (V := i64 (((pw k) * 2 : Nat) : Int)) s15_6 (fun a7 N7 D7 hv hO => ?_))
 have s5_7 := hv
 have s1_7 := oT hO s1_6 rfl
 have s2_7 := oT hO s2_6 rfl
 have s6_7 := oT hO s6_6 rfl
 clear hO hv N6 D6 s1_6 s2_6 s6_6 s15_6 s5_6
 refine tail_nil ?_
 refine Rl [] [(12, Pr.ex (i64 (k : Int))), (13, Pr.ex (i64 ((k + 1 : Nat) : Int)))] 2 N7 D7 ?_ ?_
 refine Ac ?_ (Ac ?_ (Az _))
 exact Am s6_7 rfl fun _ => rfl
 exact Ap fun aq wq _ hO hR hT => does_add (a := (k : Int)) (b := ((1 : Nat) : Int)) (r := ((k + 1 : Nat) : Int)) (hT 12 rfl rfl) rfl (by omega) (by omega) (by omega) eR
 intro a8 wd8 N8 D8 hO hR hA hU
 obtain ⟨_, t13, _⟩ := hA
 have E8 := E6.trans hR
 have s1_8 := oT hO s1_7 rfl
 have s2_8 := oT hO s2_7 rfl
 have s5_8 := oT hO s5_7 rfl
 have s6_8 := oT hO s6_7 rfl
 have B2_8 := B2_6.ext' hR
 have s13_8 : get a8 13 = i64 ((k + 1 : Nat) : Int) := t13
 clear E6 N7 D7 s1_7 s2_7 s5_7 s6_7 B2_6
 refine tail_put rfl rfl N8 D8 (by decide) (does_assign (V := i64 ((k + 1 : Nat) : Int)) s13_8 (fun a9 N9 D9 hv hO => ?_))
 have s6_9 := hv
 have s1_9 := oT hO s1_8 rfl
 have s2_9 := oT hO s2_8 rfl
 have s5_9 := oT hO s5_8 rfl
 clear hO hv N8 D8 s1_8 s2_8 s5_8 s13_8 s6_8
 refine tail_nil ?_
 exact ⟨_, by omega, k + 1, rfl, N9, D9, s1_9, s2_9, (by rw [pw_succ]; exact s5_9), s6_9, E8, B2_8, by omega⟩
 have hc0 := of_decide_eq_false hc0
 have hkh : k = h := by omega
 have hp16 := pw_small hh
 refine wp_exit ?_
 refine wp_seq ?_
 rw [hkh] at s5_5
 refine Rl [] [(7, Pr.ex (Value.slice none 0 0))] 1 N5 D5 ?_ ?_
 refine Ac ?_ (Az _)
 exact Ap fun aq wq _ hO hR hT => does_assign (V := Value.slice none 0 0) rfl eR
 intro a10 wd10 N10 D10 hO hR hA hU
 obtain ⟨t7, _⟩ := hA
 have E10 := E5.trans hR
 have s2_10 := oT hO s2_5 rfl
 have s5_10 := oT hO s5_5 rfl
 have B2_10 := B2_5.ext' hR
 have s7_10 : get a10 7 = Value.slice none 0 0 := t7
 clear E5 N5 D5 s1_5 s2_5 s5_5 s6_5 s11_5 B2_5
 refine tail_nil ?_
 refine wp_seq ?_
 refine wp_seq ?_
 refine Rl [] [(8, Pr.ex (i64 ((0 : Nat) : Int)))] 1 N10 D10 ?_ ?_
 refine Ac ?_ (Az _)
 exact Ap fun aq wq _ hO hR hT => does_assign (V := i64 ((0 : Nat) : Int)) rfl eR
 intro a11 wd11 N11 D11 hO hR hA hU
 obtain ⟨t8, _⟩ := hA
 have E11 := E10.trans hR
 have s2_11 := oT hO s2_10 rfl
 have s5_11 := oT hO s5_10 rfl
 have s7_11 := oT hO s7_10 rfl
 have B2_11 := B2_10.ext' hR
 have s8_11 : get a11 8 = i64 ((0 : Nat) : Int) := t8
 clear E10 N10 D10 s2_10 s5_10 s7_10 B2_10
 refine tail_nil ?_
 refine wp_block ?_
 refine loop_g (fun mz az wz => ∃ j : Nat, ∃ xo : Value, mz = pw h - j ∧ (az.tmps.size = 29) ∧ (az.defers = []) ∧ (get az 2 = Value.pointer (some ⟨b2, 0, none⟩)) ∧ (get az 5 = i64 ((pw h : Nat) : Int)) ∧ (get az 7 = xo) ∧ (get az 8 = i64 (j : Int)) ∧ (Ext w0 wz) ∧ (Has wz b2 24 [w32 (seed).a, w32 (seed).b, w32 (seed).c, w32 (seed).d]) ∧ (OwnT DG w0.heap.size 24 ((List.range j).map (pubAt seed)) xo wz) ∧ (xo.ownBlock ≠ some b2) ∧ (j ≤ pw h)) ?_ ?_
 exact ⟨_, 0, (Value.slice none 0 0), rfl, N11, D11, s2_11, s5_11, s7_11, s8_11, E11, B2_11, (OwnT.nil DG w0.heap.size 24 _), (by intro e; cases e), Nat.zero_le _⟩
 rintro mz a12 wd12 ⟨j, xo, rfl, N12, D12, s2_12, s5_12, s7_12, s8_12, E12, B2_12, hoxo_12, nbo_xo_b2, hkj⟩
 have hsxo_12 := hoxo_12.sl.wide (Nat.zero_le _) (.inl rfl)
 refine wp_seq ?_
 refine wp_seq ?_
 refine Rl [] [(16, Pr.ex (i64 (j : Int))), (17, Pr.ex (i64 ((pw h : Nat) : Int))), (18, Pr.ex (Value.bool (decide ((j : Int) < ((pw h : Nat) : Int)))))] 3 N12 D12 ?_ ?_
 refine Ac ?_ (Ac ?_ (Ac ?_ (Az _)))
 exact Am s8_12 rfl fun _ => rfl
 exact Am s5_12 rfl fun _ => rfl
 exact Ap fun aq wq _ hO hR hT => does_lss (a := (j : Int)) (b := ((pw h : Nat) : Int)) (hT 16 rfl rfl) (hT 17 rfl rfl) eR
 intro a13 wd13 N13 D13 hO hR hA hU
 obtain ⟨_, _, t18, _⟩ := hA
 have E13 := E12.trans hR
 have s2_13 := oT hO s2_12 rfl
 have s5_13 := oT hO s5_12 rfl
 have s7_13 := oT hO s7_12 rfl
 have s8_13 := oT hO s8_12 rfl
 have B2_13 := B2_12.ext' hR
 have hsxo_13 := hsxo_12.ext' hR
 have hoxo_13 := hoxo_12.ext' hR
 have s18_13 : get a13 18 = Value.bool (decide ((j : Int) < ((pw h : Nat) : Int))) := t18
 clear E12 N12 D12 s2_12 s5_12 s7_12 s8_12 B2_12 hsxo_12 hoxo_12
 refine tail_nil ?_
 refine wp_if (B := decide ((j : Int) < ((pw h : Nat) : Int))) s18_13 (fun hc1 => ?_) (fun hc1 => ?_)
 have hc1 := of_decide_eq_true hc1
 refine wp_skip ?_
 refine wp_seq ?_
 refine wp_block ?_
 refine Rl [] [(21, Pr.ex (xo)), (22, Pr.ex (Dg.val (seed))), (23, Pr.ex (i64 (j : Int))), (24, Pr.ex (Dg.val (seedAt seed j))), (25, Pr.ex (Dg.val (Sd.lone (seedAt seed j)))), (26, Pr.own' DG wd13.heap.size 24 ([Sd.lone (seedAt seed j)]))] 6 N13 D13 ?_ ?_
 refine Ac ?_ (Ac ?_ (Ac ?_ (Ac ?_ (Ac ?_ (Ac ?_ (Az _))))))
 exact Am s7_13 rfl fun _ => rfl
 exact Ap fun aq wq _ hO hR hT => does_loadD (o := 0) (n := 4) (mid := [w32 (seed).a, w32 (seed).b, w32 (seed).c, w32 (seed).d]) (oT hO s2_13 rfl) (B2_13.ext' hR) rfl rfl (nB rfl) row_24 rfl eR
 exact Am s8_13 rfl fun _ => rfl
 exact Ap fun aq wq _ hO hR hT => does_ret (vs := #[Dg.val (seed), i64 (j : Int)]) call_49 (args2 (hT 22 rfl rfl) (hT 23 rfl rfl)) rfl ((seedR seed j wq).mono fun v w2 h => ⟨h.2, h.1⟩)
 exact Ap fun aq wq _ hO hR hT => does_ret (vs := #[Dg.val (seedAt seed j)]) call_74 (args1 (hT 24 rfl rfl)) rfl ((publicR (seedAt seed j) wq).mono fun v w2 h => ⟨h.2, h.1⟩)
 exact Ap fun aq wq _ hO hR hT => does_slice1 (T := DG) (X := Sd.lone (seedAt seed j)) (V := Dg.val (Sd.lone (seedAt seed j))) app_27 rfl (by decide) (hT 25 rfl rfl) rfl (fun v w2 he _ ho => ⟨he, OwnT.base ho hR.size'⟩)
 intro a14 wd14 N14 D14 hO hR hA hU
 obtain ⟨t21, _, _, _, _, t26, _⟩ := hA
 have E14 := E13.trans hR
 have s2_14 := oT hO s2_13 rfl
 have s5_14 := oT hO s5_13 rfl
 have s7_14 := oT hO s7_13 rfl
 have s8_14 := oT hO s8_13 rfl
 have B2_14 := B2_13.ext' hR
 have hsxo_14 := hsxo_13.ext' hR
 have hoxo_14 := hoxo_13.ext' hR
 have s21_14 : get a14 21 = xo := t21
 obtain ⟨x26, s26_14⟩ : ∃ x, get a14 26 = x := ⟨_, rfl⟩
 replace t26 : OwnT DG wd13.heap.size 24 ([Sd.lone (seedAt seed j)]) x26 wd14 := by rw [← s26_14]; exact t26
 have nbo_x26_b2 := Ob1 t26 B2_13
 have no_x26_xo := Oo t26 hoxo_13
 have X26_14 := t26.sl.wide (Nat.zero_le _) (.inl rfl)
 have O26_14 := OwnT.base t26 E13.size'
 clear E13 N13 D13 s2_13 s5_13 s7_13 s8_13 s18_13 B2_13 hsxo_13 hoxo_13
 refine tail_put rfl rfl N14 D14 (by decide) (does_append (T := DG) (base := w0.heap.size) (xs := (List.range j).map (pubAt seed)) (ys := [Sd.lone (seedAt seed j)]) (v := xo) app_27 s21_14 hoxo_14 (SlT.at s26_14 X26_14) (by simp) (by simp only [List.length_map, List.length_range, List.length_cons, List.length_nil]; omega) (by simp only [List.length_map, List.length_range, List.length_cons, List.length_nil]; omega) E14.size' (fun x27 wd15 hX O27_15 hk a15 N15 D15 hv hO => ?_))
 have E15 := E14.since hX (fun b hb => Nat.le_trans (Nat.le_refl _) (OwnT.block_lt hoxo_14 hb).1)
 have B2_15 := B2_14.ext hX nbo_xo_b2
 have nbo_x27_b2 : x27.ownBlock ≠ some b2 := fun e => (hk _ e).elim nbo_xo_b2 (fun h => Nat.lt_irrefl _ (Nat.lt_of_lt_of_le B2_14.lt h))
 have O26_15 := OwnT.ext O26_14 hX (fun k hk e => no_x26_xo k hk e)
 have no_x27_x26 : ∀ k, x27.ownBlock = some k → x26.ownBlock ≠ some k := fun k e e' => (hk k e).elim (fun h => no_x26_xo k e' h) (fun h => Nat.lt_irrefl _ (Nat.lt_of_lt_of_le (OwnT.block_lt O26_14 e').2 h))
 have X26_15 := O26_15.sl.wide (Nat.zero_le _) (.inl rfl)
 have X27_15 := O27_15.sl.wide (Nat.zero_le _) (.inl rfl)
 rw [(show (List.range j).map (pubAt seed) ++ [Sd.lone (seedAt seed j)] = (List.range (j + 1)).map (pubAt seed) from range_step rfl)] at O27_15 X27_15
 have s27_15 := hv
 have s2_15 := oT hO s2_14 rfl
 have s5_15 := oT hO s5_14 rfl
 have s7_15 := oT hO s7_14 rfl
 have s8_15 := oT hO s8_14 rfl
 clear hO hv hX hk N14 D14 E14 B2_14 O26_14 s2_14 s5_14 s7_14 s8_14 s21_14 s26_14
 refine tail_put rfl rfl N15 D15 (by decide) (does_assign (V := x27) s27_15 (fun a16 N16 D16 hv hO => ?_))
 have s7_16 := hv
 have s2_16 := oT hO s2_15 rfl
 have s5_16 := oT hO s5_15 rfl
 have s8_16 := oT hO s8_15 rfl
 clear hO hv N15 D15 s2_15 s5_15 s8_15 s27_15 s7_15
 refine tail_nil ?_
 refine Rl [] [(19, Pr.ex (i64 (j : Int))), (20, Pr.ex (i64 ((j + 1 : Nat) : Int)))] 2 N16 D16 ?_ ?_
 refine Ac ?_ (Ac ?_ (Az _))
 exact Am s8_16 rfl fun _ => rfl
 exact Ap fun aq wq _ hO hR hT => does_add (a := (j : Int)) (b := ((1 : Nat) : Int)) (r := ((j + 1 : Nat) : Int)) (hT 19 rfl rfl) rfl (by omega) (by omega) (by omega) eR
 intro a17 wd17 N17 D17 hO hR hA hU
 obtain ⟨_, t20, _⟩ := hA
 have E17 := E15.trans hR
 have s2_17 := oT hO s2_16 rfl
 have s5_17 := oT hO s5_16 rfl
 have s7_17 := oT hO s7_16 rfl
 have s8_17 := oT hO s8_16 rfl
 have B2_17 := B2_15.ext' hR
 have X26_17 := X26_15.ext' hR
 have X27_17 := X27_15.ext' hR
 have O26_17 := O26_15.ext' hR
 have O27_17 := O27_15.ext' hR
 have s20_17 : get a17 20 = i64 ((j + 1 : Nat) : Int) := t20
 clear E15 N16 D16 s2_16 s5_16 s7_16 s8_16 B2_15 X26_15 X27_15 O26_15 O27_15
 refine tail_put rfl rfl N17 D17 (by decide) (does_assign (V := i64 ((j + 1 : Nat) : Int)) s20_17 (fun a18 N18 D18 hv hO => ?_))
 have s8_18 := hv
 have s2_18 := oT hO s2_17 rfl
 have s5_18 := oT hO s5_17 rfl
 have s7_18 := oT hO s7_17 rfl
 clear hO hv N17 D17 s2_17 s5_17 s7_17 s20_17 s8_17
 refine tail_nil ?_
 exact ⟨_, by omega, j + 1, x27, rfl, N18, D18, s2_18, s5_18, s7_18, s8_18, E17, B2_17, O27_17, nbo_x27_b2, by omega⟩
 have hc1 := of_decide_eq_false hc1
 have hjp : j = pw h := by omega
 refine wp_exit ?_
 refine wp_seq ?_
 refine Rl [] [(28, Pr.ex (xo)), (4, Pr.ex (xo))] 2 N13 D13 ?_ ?_
 refine Ac ?_ (Ac ?_ (Az _))
 exact Am s7_13 rfl fun _ => rfl
 exact Ap fun aq wq _ hO hR hT => does_assign (V := xo) (hT 28 rfl rfl) eR
 intro a19 wd19 N19 D19 hO hR hA hU
 obtain ⟨_, t4, _⟩ := hA
 have E19 := E13.trans hR
 have B2_19 := B2_13.ext' hR
 have hsxo_19 := hsxo_13.ext' hR
 have hoxo_19 := hoxo_13.ext' hR
 have s4_19 : get a19 4 = xo := t4
 clear E13 N13 D13 s2_13 s5_13 s7_13 s8_13 s18_13 B2_13 hsxo_13 hoxo_13
 refine tail_nil ?_
 refine wp_ret ?_
 refine res_one (V := xo) rfl D19 s4_19 ?_
 have ho := hoxo_19
 rw [hjp, ← publics_eq] at ho
 exact ⟨ho, E19⟩

end Go.Proofs.YtmmghpbncejfiaaDoor
