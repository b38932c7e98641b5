/- The walks of functions of the program: printed. -/
import Derived.Test.YtmmghpbncejfiaaDoorKB
import Derived.Test.YtmmghpbncejfiaaDoorG90
import Derived.Test.YtmmghpbncejfiaaDoorG92
import Derived.Test.YtmmghpbncejfiaaDoorF0
set_option maxRecDepth 100000
namespace Go.Proofs.YtmmghpbncejfiaaDoor
open Go Go.RowKit Sk Sd
theorem publics_ (seed : Dg) (h : Nat) (w0 : World) (hL : Laid w0) (hh : h ≤ 4) :
    Gives Tryd.prog 32 #[Dg.val (seed), i64 (h : Int)] w0 (Pr.own' DG w0.heap.size 24 (publics seed (pw h))) := by
 refine enter (N := 24) Tryd.func32 rfl rfl ?_
 intro a0 N0 D0 hA
 have s0_0 : get a0 0 = Dg.val (seed) := hA 0 _ rfl
 have s1_0 : get a0 1 = i64 (h : Int) := hA 1 _ rfl
 clear hA
 have E0 : Ext w0 w0 := Ext.refl w0
 have hw0 := Laid.pos hL
 have hp16 := pw_small hh
 refine wp_seq ?_
 refine Rl [2] [(2, Pr.box' w0.heap.size 24 [w32 (seed).a, w32 (seed).b, w32 (seed).c, w32 (seed).d]), (4, Pr.ex (Value.slice none 0 0))] 2 N0 D0 ?_ ?_
 refine Ac ?_ (Ac ?_ (Az _))
 refine Ask.fresh rfl rfl ?_
 intro aq wq hNq hO hR hT
 exact does_box (V := Dg.val (seed)) (oT hO s0_0 rfl) (fun b w2 he hlo hb => ⟨he, ⟨b, rfl, Nat.le_trans hR.size' hlo, hb⟩, ⟨b, rfl, hlo, hb.lt⟩⟩)
 exact Ap fun aq wq _ hO hR hT => does_assign (V := Value.slice none 0 0) rfl eR
 intro a1 wd1 N1 D1 hO hR hA hU
 obtain ⟨t2, _, _⟩ := hA
 have E1 := E0.trans hR
 have s1_1 := oT hO s1_0 rfl
 obtain ⟨b2, s2_1, lo_b2, B2_1⟩ := t2
 have fr_b2 : w0.heap.size ≤ b2 := Nat.le_trans E0.size' lo_b2
 clear E0 N0 D0 s0_0 s1_0
 refine tail_nil ?_
 refine wp_seq ?_
 refine Rl [] [(8, Pr.ex (Dg.val (seed))), (9, Pr.fn 77 (wd1.heap.size) 112 [w32 (seed.a), w32 (seed.b), w32 (seed.c), w32 (seed.d), w32 (0)]), (5, Pr.fn 77 (wd1.heap.size) 112 [w32 (seed.a), w32 (seed.b), w32 (seed.c), w32 (seed.d), w32 (0)])] 3 N1 D1 ?_ ?_
 refine Ac ?_ (Ac ?_ (Ac ?_ (Az _)))
 exact Ap fun aq wq _ hO hR hT => does_loadD (o := 0) (n := 4) (mid := [w32 (seed).a, w32 (seed).b, w32 (seed).c, w32 (seed).d]) (oT hO s2_1 rfl) (B2_1.ext' hR) rfl rfl (nB rfl) row_24 rfl eR
 exact Ap fun aq wq _ hO hR hT => does_ret (vs := #[Dg.val (seed)]) call_51 (args1 (hT 8 rfl rfl)) rfl ((seeds_ seed wq).mono fun v w2 h => ⟨h.2, IsFn.lo h.1 hR.size'⟩)
 exact Ap fun aq wq _ hO hR hT => does_assign rfl ⟨Ext.refl _, (hT 9 rfl rfl)⟩
 intro a2 wd2 N2 D2 hO hR hA hU
 obtain ⟨_, _, t5, _⟩ := hA
 have E2 := E1.trans hR
 have s1_2 := oT hO s1_1 rfl
 have B2_2 := B2_1.ext' hR
 obtain ⟨b5, s5_2, lo_b5, B5_2⟩ := t5
 have ne_b2_b5 := Hl B2_1 lo_b5
 have fr_b5 : w0.heap.size ≤ b5 := Nat.le_trans E1.size' lo_b5
 clear E1 N1 D1 s1_1 s2_1 B2_1
 refine tail_nil ?_
 refine wp_seq ?_
 refine Rl [] [(6, Pr.ex (Value.slice none 0 0))] 1 N2 D2 ?_ ?_
 refine Ac ?_ (Az _)
 exact Ap fun aq wq _ hO hR hT => does_assign (V := Value.slice none 0 0) rfl eR
 intro a3 wd3 N3 D3 hO hR hA hU
 obtain ⟨t6, _⟩ := hA
 have E3 := E2.trans hR
 have s1_3 := oT hO s1_2 rfl
 have s5_3 := oT hO s5_2 rfl
 have B2_3 := B2_2.ext' hR
 have B5_3 := B5_2.ext' hR
 have s6_3 : get a3 6 = Value.slice none 0 0 := t6
 clear E2 N2 D2 s1_2 s5_2 B2_2 B5_2
 refine tail_nil ?_
 refine wp_seq ?_
 refine wp_seq ?_
 refine Rl [] [(10, Pr.ex (i64 (h : Int))), (11, Pr.ex (i64 ((pw h : Nat) : Int))), (12, Pr.ex (i64 ((0 : Nat) : Int)))] 3 N3 D3 ?_ ?_
 refine Ac ?_ (Ac ?_ (Ac ?_ (Az _)))
 exact Am s1_3 rfl fun _ => rfl
 exact Ap fun aq wq _ hO hR hT => does_shl (k := .i64) (k' := .i64) (a := 1) (b := (h : Int)) (r := ((pw h : Nat) : Int)) rfl (hT 10 rfl rfl) (by omega) (by simp only [IntKind.bits]; omega) (shl_one hh) eR
 exact Ap fun aq wq _ hO hR hT => does_move (V := i64 ((0 : Nat) : Int)) rfl eR
 intro a4 wd4 N4 D4 hO hR hA hU
 obtain ⟨_, t11, t12, _⟩ := hA
 have E4 := E3.trans hR
 have s5_4 := oT hO s5_3 rfl
 have s6_4 := oT hO s6_3 rfl
 have B2_4 := B2_3.ext' hR
 have B5_4 := B5_3.ext' hR
 have s11_4 : get a4 11 = i64 ((pw h : Nat) : Int) := t11
 have s12_4 : get a4 12 = i64 ((0 : Nat) : Int) := t12
 clear E3 N3 D3 s1_3 s5_3 s6_3 B2_3 B5_3
 refine tail_nil ?_
 refine wp_block ?_
 refine loop_g (fun mz az wz => ∃ k : Nat, ∃ u : UInt32, ∃ xo : Value, mz = pw h - k ∧ (az.tmps.size = 24) ∧ (az.defers = []) ∧ (get az 5 = Value.func (.func 77) #[] #[Value.pointer (some ⟨b5, 0, none⟩)]) ∧ (get az 6 = xo) ∧ (get az 11 = i64 ((pw h : Nat) : Int)) ∧ (get az 12 = i64 (k : Int)) ∧ (Ext w0 wz) ∧ (Has wz b2 24 [w32 (seed).a, w32 (seed).b, w32 (seed).c, w32 (seed).d]) ∧ (Has wz b5 112 [w32 (seed.a), w32 (seed.b), w32 (seed.c), w32 (seed.d), w32 (u)]) ∧ (OwnT DG w0.heap.size 24 ((List.range k).map (pubAt seed)) xo wz) ∧ (xo.ownBlock ≠ some b2) ∧ (xo.ownBlock ≠ some b5) ∧ (k ≤ pw h)) ?_ ?_
 exact ⟨_, 0, 0, (Value.slice none 0 0), rfl, N4, D4, s5_4, s6_4, s11_4, s12_4, E4, B2_4, B5_4, (OwnT.nil DG w0.heap.size 24 _), (by intro e; cases e), (by intro e; cases e), Nat.zero_le _⟩
 rintro mz a5 wd5 ⟨k, u, xo, rfl, N5, D5, s5_5, s6_5, s11_5, s12_5, E5, B2_5, B5_5, hoxo_5, nbo_xo_b2, nbo_xo_b5, hk⟩
 have hsxo_5 := hoxo_5.sl.wide (Nat.zero_le _) (.inl rfl)
 refine wp_seq ?_
 refine Rl [] [(13, Pr.ex (Value.bool (decide ((k : Int) < ((pw h : Nat) : Int)))))] 1 N5 D5 ?_ ?_
 refine Ac ?_ (Az _)
 exact Ap fun aq wq _ hO hR hT => does_lss (a := (k : Int)) (b := ((pw h : Nat) : Int)) (oT hO s12_5 rfl) (oT hO s11_5 rfl) eR
 intro a6 wd6 N6 D6 hO hR hA hU
 obtain ⟨t13, _⟩ := hA
 have E6 := E5.trans hR
 have s5_6 := oT hO s5_5 rfl
 have s6_6 := oT hO s6_5 rfl
 have s11_6 := oT hO s11_5 rfl
 have s12_6 := oT hO s12_5 rfl
 have B2_6 := B2_5.ext' hR
 have B5_6 := B5_5.ext' hR
 have hsxo_6 := hsxo_5.ext' hR
 have hoxo_6 := hoxo_5.ext' hR
 have s13_6 : get a6 13 = Value.bool (decide ((k : Int) < ((pw h : Nat) : Int))) := t13
 clear E5 N5 D5 s5_5 s6_5 s11_5 s12_5 B2_5 B5_5 hsxo_5 hoxo_5
 refine tail_nil ?_
 refine wp_seq ?_
 refine wp_if (B := decide ((k : Int) < ((pw h : Nat) : Int))) s13_6 (fun hc0 => ?_) (fun hc0 => ?_)
 have hc0 := of_decide_eq_true hc0
 refine wp_skip ?_
 refine wp_seq ?_
 refine wp_block ?_
 refine wp_seq ?_
 refine Rl [] [(14, Pr.ex (i64 (k : Int))), (7, Pr.ex (i64 (k : Int)))] 2 N6 D6 ?_ ?_
 refine Ac ?_ (Ac ?_ (Az _))
 exact Am s12_6 rfl fun _ => rfl
 exact Ap fun aq wq _ hO hR hT => does_assign (V := i64 (k : Int)) (hT 14 rfl rfl) eR
 intro a7 wd7 N7 D7 hO hR hA hU
 obtain ⟨_, t7, _⟩ := hA
 have E7 := E6.trans hR
 have s5_7 := oT hO s5_6 rfl
 have s6_7 := oT hO s6_6 rfl
 have s11_7 := oT hO s11_6 rfl
 have s12_7 := oT hO s12_6 rfl
 have B2_7 := B2_6.ext' hR
 have B5_7 := B5_6.ext' hR
 have hsxo_7 := hsxo_6.ext' hR
 have hoxo_7 := hoxo_6.ext' hR
 have s7_7 : get a7 7 = i64 (k : Int) := t7
 clear E6 N6 D6 s5_6 s6_6 s11_6 s12_6 s13_6 B2_6 B5_6 hsxo_6 hoxo_6
 refine tail_nil ?_
 refine Rl [] [(15, Pr.ex (xo)), (16, Pr.ex (Value.func (.func 77) #[] #[Value.pointer (some ⟨b5, 0, none⟩)])), (17, Pr.ex (i64 (k : Int)))] 3 N7 D7 ?_ ?_
 refine Ac ?_ (Ac ?_ (Ac ?_ (Az _)))
 exact Am s6_7 rfl fun _ => rfl
 exact Am s5_7 rfl fun _ => rfl
 exact Am s7_7 rfl fun _ => rfl
 intro a8 wd8 N8 D8 hO hR hA hU
 obtain ⟨t15, t16, t17, _⟩ := hA
 have E8 := E7.trans hR
 have s5_8 := oT hO s5_7 rfl
 have s6_8 := oT hO s6_7 rfl
 have s11_8 := oT hO s11_7 rfl
 have s12_8 := oT hO s12_7 rfl
 have B2_8 := B2_7.ext' hR
 have B5_8 := B5_7.ext' hR
 have hsxo_8 := hsxo_7.ext' hR
 have hoxo_8 := hoxo_7.ext' hR
 have s15_8 : get a8 15 = xo := t15
 have s16_8 : get a8 16 = Value.func (.func 77) #[] #[Value.pointer (some ⟨b5, 0, none⟩)] := t16
 have s17_8 : get a8 17 = i64 (k : Int) := t17
 clear E7 N7 D7 s5_7 s6_7 s7_7 s11_7 s12_7 B2_7 B5_7 hsxo_7 hoxo_7
 refine tail_put rfl rfl N8 D8 (by decide) (does_retv (vs := #[i64 (k : Int)]) (cap := #[Value.pointer (some ⟨b5, 0, none⟩)]) call_77 (args1 s17_8) s16_8 ((seed1 seed (u) k b5 wd8 (hL.ext E8) (fun e => Nat.ne_of_lt (Nat.lt_of_le_of_lt (Nat.zero_le _) (Nat.lt_of_lt_of_le hw0 fr_b5)) e) B5_8).mono fun v wd9 h => fun a9 N9 D9 hv hO => ?_))
 obtain ⟨hp, hX, hS⟩ := h
 have E9 := E8.since hX (fun k e => e ▸ fr_b5)
 have B2_9 := B2_8.ext hX ne_b2_b5
 have hsxo_9 := SlT.over hsxo_8 hX (fun _ => nbo_xo_b5)
 have hoxo_9 := OwnT.ext hoxo_8 hX (fun k hk e => nbo_xo_b5 (e ▸ hk))
 have B5_9 : Has wd9 b5 112 [w32 seed.a, w32 seed.b, w32 seed.c, w32 seed.d, w32 (UInt32.ofNat k)] := hS
 have s18_9 := hv.trans hp
 have s5_9 := oT hO s5_8 rfl
 have s6_9 := oT hO s6_8 rfl
 have s11_9 := oT hO s11_8 rfl
 have s12_9 := oT hO s12_8 rfl
 have s15_9 := oT hO s15_8 rfl
 clear hO hv hp hX N8 D8 E8 B2_8 B5_8 hsxo_8 hoxo_8 s5_8 s6_8 s11_8 s12_8 s15_8 s16_8 s17_8
 refine tail_put rfl rfl N9 D9 (by decide) (does_ret (vs := #[Dg.val (seedAt seed k)]) call_52 (args1 s18_9) rfl ((public_ (seedAt seed k) wd9 (hL.ext E9)).mono fun v wd10 h => fun a10 N10 D10 hv hO => ?_))
 have he := h.2
 have hR := he
 have hp : (Pr.ex (Dg.val (Sd.lone (seedAt seed k)))).p v wd10 := h.1
 clear h
 have E10 := E9.trans he
 have B2_10 := B2_9.ext' he
 have B5_10 := B5_9.ext' he
 have hsxo_10 := hsxo_9.ext' he
 have hoxo_10 := hoxo_9.ext' he
 replace hp : v = Dg.val (Sd.lone (seedAt seed k)) := hp
 have s19_10 := hv.trans hp
 have s5_10 := oT hO s5_9 rfl
 have s6_10 := oT hO s6_9 rfl
 have s11_10 := oT hO s11_9 rfl
 have s12_10 := oT hO s12_9 rfl
 have s15_10 := oT hO s15_9 rfl
 clear hO hv N9 D9 E9 B2_9 B5_9 hsxo_9 hoxo_9 s5_9 s6_9 s11_9 s12_9 s15_9 s18_9
 refine tail_put rfl rfl N10 D10 (by decide) (does_slice1 (T := DG) (X := Sd.lone (seedAt seed k)) (V := Dg.val (Sd.lone (seedAt seed k))) app_27 rfl (by decide) s19_10 rfl (fun v wd11 he _ hp => fun a11 N11 D11 hv hO => ?_))
 have hR := he
 have E11 := E10.trans he
 have B2_11 := B2_10.ext' he
 have B5_11 := B5_10.ext' he
 have hsxo_11 := hsxo_10.ext' he
 have hoxo_11 := hoxo_10.ext' he
 obtain ⟨x20, hxe⟩ : ∃ x, v = x := ⟨_, rfl⟩
 have s20_11 := hv.trans hxe
 replace hp : OwnT DG wd10.heap.size 24 ([Sd.lone (seedAt seed k)]) x20 wd11 := hxe ▸ hp
 have nbo_x20_b2 := Ob1 hp B2_10
 have nbo_x20_b5 := Ob1 hp B5_10
 have no_x20_xo := Oo hp hoxo_10
 have X20_11 := hp.sl.wide (Nat.zero_le _) (.inl rfl)
 have O20_11 := OwnT.base hp E10.size'
 clear hxe
 have s5_11 := oT hO s5_10 rfl
 have s6_11 := oT hO s6_10 rfl
 have s11_11 := oT hO s11_10 rfl
 have s12_11 := oT hO s12_10 rfl
 have s15_11 := oT hO s15_10 rfl
 clear hO hv N10 D10 E10 B2_10 B5_10 hsxo_10 hoxo_10 s5_10 s6_10 s11_10 s12_10 s15_10 s19_10
 refine tail_put rfl rfl N11 D11 (by decide) (does_append (T := DG) (base := w0.heap.size) (xs := (List.range k).map (pubAt seed)) (ys := [Sd.lone (seedAt seed k)]) (v := xo) app_27 s15_11 hoxo_11 (SlT.at s20_11 X20_11) (by simp) (by simp only [List.length_map, List.length_range, List.length_cons, List.length_nil]; omega) (by simp only [List.length_map, List.length_range, List.length_cons, List.length_nil]; omega) E11.size' (fun x21 wd12 hX O21_12 hk a12 N12 D12 hv hO => ?_))
 have E12 := E11.since hX (fun b hb => Nat.le_trans (Nat.le_refl _) (OwnT.block_lt hoxo_11 hb).1)
 have B2_12 := B2_11.ext hX nbo_xo_b2
 have nbo_x21_b2 : x21.ownBlock ≠ some b2 := fun e => (hk _ e).elim nbo_xo_b2 (fun h => Nat.lt_irrefl _ (Nat.lt_of_lt_of_le B2_11.lt h))
 have B5_12 := B5_11.ext hX nbo_xo_b5
 have nbo_x21_b5 : x21.ownBlock ≠ some b5 := fun e => (hk _ e).elim nbo_xo_b5 (fun h => Nat.lt_irrefl _ (Nat.lt_of_lt_of_le B5_11.lt h))
 have O20_12 := OwnT.ext O20_11 hX (fun k hk e => no_x20_xo k hk e)
 have no_x21_x20 : ∀ k, x21.ownBlock = some k → x20.ownBlock ≠ some k := fun k e e' => (hk k e).elim (fun h => no_x20_xo k e' h) (fun h => Nat.lt_irrefl _ (Nat.lt_of_lt_of_le (OwnT.block_lt O20_11 e').2 h))
 have X20_12 := O20_12.sl.wide (Nat.zero_le _) (.inl rfl)
 have X21_12 := O21_12.sl.wide (Nat.zero_le _) (.inl rfl)
 rw [(show (List.range k).map (pubAt seed) ++ [Sd.lone (seedAt seed k)] = (List.range (k + 1)).map (pubAt seed) from range_step rfl)] at O21_12 X21_12
 have s21_12 := hv
 have s5_12 := oT hO s5_11 rfl
 have s6_12 := oT hO s6_11 rfl
 have s11_12 := oT hO s11_11 rfl
 have s12_12 := oT hO s12_11 rfl
 clear hO hv hX hk N11 D11 E11 B2_11 B5_11 O20_11 s5_11 s6_11 s11_11 s12_11 s15_11 s20_11
 refine tail_put rfl rfl N12 D12 (by decide) (does_assign (V := x21) s21_12 (fun a13 N13 D13 hv hO => ?_))
 have s6_13 := hv
 have s5_13 := oT hO s5_12 rfl
 have s11_13 := oT hO s11_12 rfl
 have s12_13 := oT hO s12_12 rfl
 clear hO hv N12 D12 s5_12 s11_12 s12_12 s21_12 s6_12
 refine tail_nil ?_
 refine Rl [] [(22, Pr.ex (i64 ((k + 1 : Nat) : Int)))] 1 N13 D13 ?_ ?_
 refine Ac ?_ (Az _)
 exact Ap fun aq wq _ hO hR hT => does_add (a := (k : Int)) (b := ((1 : Nat) : Int)) (r := ((k + 1 : Nat) : Int)) (oT hO s12_13 rfl) rfl (by omega) (by omega) (by omega) eR
 intro a14 wd14 N14 D14 hO hR hA hU
 obtain ⟨t22, _⟩ := hA
 have E14 := E12.trans hR
 have s5_14 := oT hO s5_13 rfl
 have s6_14 := oT hO s6_13 rfl
 have s11_14 := oT hO s11_13 rfl
 have s12_14 := oT hO s12_13 rfl
 have B2_14 := B2_12.ext' hR
 have B5_14 := B5_12.ext' hR
 have X20_14 := X20_12.ext' hR
 have X21_14 := X21_12.ext' hR
 have O20_14 := O20_12.ext' hR
 have O21_14 := O21_12.ext' hR
 have s22_14 : get a14 22 = i64 ((k + 1 : Nat) : Int) := t22
 clear E12 N13 D13 s5_13 s6_13 s11_13 s12_13 B2_12 B5_12 X20_12 X21_12 O20_12 O21_12
 refine tail_put rfl rfl N14 D14 (by decide) (does_move (V := i64 ((k + 1 : Nat) : Int)) s22_14 (fun a15 N15 D15 hv hO => ?_))
 have s12_15 := hv
 have s5_15 := oT hO s5_14 rfl
 have s6_15 := oT hO s6_14 rfl
 have s11_15 := oT hO s11_14 rfl
 clear hO hv N14 D14 s5_14 s6_14 s11_14 s22_14 s12_14
 refine tail_nil ?_
 exact ⟨_, by omega, k + 1, (UInt32.ofNat k), x21, rfl, N15, D15, s5_15, s6_15, s11_15, s12_15, E14, B2_14, B5_14, O21_14, nbo_x21_b2, nbo_x21_b5, by omega⟩
 have hc0 := of_decide_eq_false hc0
 refine wp_exit ?_
 refine wp_seq ?_
 refine Rl [] [(23, Pr.ex (xo)), (4, Pr.ex (xo))] 2 N6 D6 ?_ ?_
 refine Ac ?_ (Ac ?_ (Az _))
 exact Am s6_6 rfl fun _ => rfl
 exact Ap fun aq wq _ hO hR hT => does_assign (V := xo) (hT 23 rfl rfl) eR
 intro a16 wd16 N16 D16 hO hR hA hU
 obtain ⟨_, t4, _⟩ := hA
 have E16 := E6.trans hR
 have B2_16 := B2_6.ext' hR
 have B5_16 := B5_6.ext' hR
 have hsxo_16 := hsxo_6.ext' hR
 have hoxo_16 := hoxo_6.ext' hR
 have s4_16 : get a16 4 = xo := t4
 clear E6 N6 D6 s5_6 s6_6 s11_6 s12_6 s13_6 B2_6 B5_6 hsxo_6 hoxo_6
 refine tail_nil ?_
 refine wp_ret ?_
 refine res_one (V := xo) rfl D16 s4_16 ?_
 have hkp : k = pw h := by omega
 have ho := hoxo_16
 rw [hkp, ← publics_eq] at ho
 exact ⟨ho, E16⟩

end Go.Proofs.YtmmghpbncejfiaaDoor
