/- The walks of functions of the program: printed. -/
import Derived.Test.YtmmghpbncejfiaaDoorKB
import Derived.Test.YtmmghpbncejfiaaDoorG60
import Derived.Test.YtmmghpbncejfiaaDoorG64
import Derived.Test.YtmmghpbncejfiaaDoorG98
import Derived.Test.YtmmghpbncejfiaaDoorF0
set_option maxRecDepth 100000
namespace Go.Proofs.YtmmghpbncejfiaaDoor
open Go Go.RowKit Sk Sd
theorem signR (seed msg : Dg) (w0 : World) :
    Gives Tryd.prog 48 #[Dg.val (seed), Dg.val (msg)] w0 (Pr.own' DG w0.heap.size 24 (signed seed msg)) := by
 refine enter (N := 26) Tryd.func48 rfl rfl ?_
 intro a0 N0 D0 hA
 have s0_0 : get a0 0 = Dg.val (seed) := hA 0 _ rfl
 have s1_0 : get a0 1 = Dg.val (msg) := hA 1 _ rfl
 clear hA
 have E0 : Ext w0 w0 := Ext.refl w0
 refine wp_seq ?_
 refine Rl [2, 3] [(2, Pr.box' w0.heap.size 24 [w32 (seed).a, w32 (seed).b, w32 (seed).c, w32 (seed).d]), (3, Pr.box' w0.heap.size 24 [w32 (msg).a, w32 (msg).b, w32 (msg).c, w32 (msg).d]), (4, Pr.ex (Value.slice none 0 0))] 3 N0 D0 ?_ ?_
 refine Ac ?_ (Ac ?_ (Ac ?_ (Az _)))
 refine Ask.fresh rfl rfl ?_
 intro aq wq hNq hO hR hT
 exact does_box (V := Dg.val (seed)) (oT hO s0_0 rfl) (fun b w2 he hlo hb => ⟨he, ⟨b, rfl, Nat.le_trans hR.size' hlo, hb⟩, ⟨b, rfl, hlo, hb.lt⟩⟩)
 refine Ask.fresh rfl rfl ?_
 intro aq wq hNq hO hR hT
 exact does_box (V := Dg.val (msg)) (oT hO s1_0 rfl) (fun b w2 he hlo hb => ⟨he, ⟨b, rfl, Nat.le_trans hR.size' hlo, hb⟩, ⟨b, rfl, hlo, hb.lt⟩⟩)
 exact Ap fun aq wq _ hO hR hT => does_assign (V := Value.slice none 0 0) rfl eR
 intro a1 wd1 N1 D1 hO hR hA hU
 obtain ⟨t2, t3, _, _⟩ := hA
 have E1 := E0.trans hR
 obtain ⟨b2, s2_1, lo_b2, B2_1⟩ := t2
 have fr_b2 : w0.heap.size ≤ b2 := Nat.le_trans E0.size' lo_b2
 obtain ⟨b3, s3_1, lo_b3, B3_1⟩ := t3
 have fr_b3 : w0.heap.size ≤ b3 := Nat.le_trans E0.size' lo_b3
 obtain ⟨u0, ⟨u1, _⟩⟩ := hU
 have ne_b2_b3 : b2 ≠ b3 := fun e => u0 3 (by decide) (by rw [s2_1, s3_1, e])
 clear E0 N0 D0 s0_0 s1_0
 refine tail_nil ?_
 refine wp_seq ?_
 refine Rl [] [(8, Pr.ex (Dg.val (msg))), (9, Pr.own' NI wd1.heap.size 3 (steps msg)), (5, Pr.own' NI wd1.heap.size 3 (steps msg))] 3 N1 D1 ?_ ?_
 refine Ac ?_ (Ac ?_ (Ac ?_ (Az _)))
 exact Ap fun aq wq _ hO hR hT => does_loadD (o := 0) (n := 4) (mid := [w32 (msg).a, w32 (msg).b, w32 (msg).c, w32 (msg).d]) (oT hO s3_1 rfl) (B3_1.ext' hR) rfl rfl (nB rfl) row_24 rfl eR
 exact Ap fun aq wq _ hO hR hT => does_ret (vs := #[Dg.val (msg)]) call_69 (args1 (hT 8 rfl rfl)) rfl ((stepsR msg wq).mono fun v w2 h => ⟨h.2, OwnT.base h.1 hR.size'⟩)
 exact Ap fun aq wq _ hO hR hT => does_assign rfl ⟨Ext.refl _, (hT 9 rfl rfl)⟩
 intro a2 wd2 N2 D2 hO hR hA hU
 obtain ⟨_, _, t5, _⟩ := hA
 have E2 := E1.trans hR
 have s2_2 := oT hO s2_1 rfl
 have B2_2 := B2_1.ext' hR
 have B3_2 := B3_1.ext' hR
 obtain ⟨x5, s5_2⟩ : ∃ x, get a2 5 = x := ⟨_, rfl⟩
 replace t5 : OwnT NI wd1.heap.size 3 (steps msg) x5 wd2 := by rw [← s5_2]; exact t5
 have nbo_x5_b2 := Ob1 t5 B2_1
 have nbo_x5_b3 := Ob1 t5 B3_1
 have X5_2 := t5.sl.wide (Nat.zero_le _) (.inl rfl)
 have O5_2 := OwnT.base t5 E1.size'
 clear E1 N1 D1 s2_1 s3_1 B2_1 B3_1
 refine tail_nil ?_
 refine wp_seq ?_
 refine Rl [] [(6, Pr.ex (Value.slice none 0 0))] 1 N2 D2 ?_ ?_
 refine Ac ?_ (Az _)
 exact Ap fun aq wq _ hO hR hT => does_assign (V := Value.slice none 0 0) rfl eR
 intro a3 wd3 N3 D3 hO hR hA hU
 obtain ⟨t6, _⟩ := hA
 have E3 := E2.trans hR
 have s2_3 := oT hO s2_2 rfl
 have s5_3 := oT hO s5_2 rfl
 have B2_3 := B2_2.ext' hR
 have B3_3 := B3_2.ext' hR
 have X5_3 := X5_2.ext' hR
 have O5_3 := O5_2.ext' hR
 have s6_3 : get a3 6 = Value.slice none 0 0 := t6
 clear E2 N2 D2 s2_2 s5_2 B2_2 B3_2 X5_2 O5_2
 refine tail_nil ?_
 refine wp_seq ?_
 refine wp_seq ?_
 refine Rl [] [(7, Pr.ex (i64 ((0 : Nat) : Int)))] 1 N3 D3 ?_ ?_
 refine Ac ?_ (Az _)
 exact Ap fun aq wq _ hO hR hT => does_assign (V := i64 ((0 : Nat) : Int)) rfl eR
 intro a4 wd4 N4 D4 hO hR hA hU
 obtain ⟨t7, _⟩ := hA
 have E4 := E3.trans hR
 have s2_4 := oT hO s2_3 rfl
 have s5_4 := oT hO s5_3 rfl
 have s6_4 := oT hO s6_3 rfl
 have B2_4 := B2_3.ext' hR
 have B3_4 := B3_3.ext' hR
 have X5_4 := X5_3.ext' hR
 have O5_4 := O5_3.ext' hR
 have s7_4 : get a4 7 = i64 ((0 : Nat) : Int) := t7
 clear E3 N3 D3 s2_3 s5_3 s6_3 B2_3 B3_3 X5_3 O5_3
 refine tail_nil ?_
 refine wp_block ?_
 refine loop_g (fun mz az wz => ∃ k : Nat, ∃ xo : Value, mz = 35 - k ∧ (az.tmps.size = 26) ∧ (az.defers = []) ∧ (get az 2 = Value.pointer (some ⟨b2, 0, none⟩)) ∧ (get az 5 = x5) ∧ (get az 6 = xo) ∧ (get az 7 = i64 (k : Int)) ∧ (Ext w0 wz) ∧ (Has wz b2 24 [w32 (seed).a, w32 (seed).b, w32 (seed).c, w32 (seed).d]) ∧ (Has wz b3 24 [w32 (msg).a, w32 (msg).b, w32 (msg).c, w32 (msg).d]) ∧ (SlT NI 0 0 (steps msg) x5 wz) ∧ (OwnT DG w0.heap.size 24 ((List.range k).map (sgn seed msg)) xo wz) ∧ (xo.ownBlock ≠ some b2) ∧ (xo.ownBlock ≠ some b3) ∧ (OwnT NI w0.heap.size 3 (steps msg) x5 wz) ∧ (x5.ownBlock ≠ some b2) ∧ (x5.ownBlock ≠ some b3) ∧ (k ≤ 35)) ?_ ?_
 exact ⟨_, 0, (Value.slice none 0 0), rfl, N4, D4, s2_4, s5_4, s6_4, s7_4, E4, B2_4, B3_4, X5_4, (OwnT.nil DG w0.heap.size 24 _), (by intro e; cases e), (by intro e; cases e), O5_4, nbo_x5_b2, nbo_x5_b3, Nat.zero_le _⟩
 rintro mz a5 wd5 ⟨k, xo, rfl, N5, D5, s2_5, s5_5, s6_5, s7_5, E5, B2_5, B3_5, X5_5, hoxo_5, nbo_xo_b2, nbo_xo_b3, O5_5, nbo_x5_b2, nbo_x5_b3, hkk⟩
 have hsxo_5 := hoxo_5.sl.wide (Nat.zero_le _) (.inl rfl)
 have X5_5 := O5_5.sl.wide (Nat.zero_le _) (.inl rfl)
 refine wp_seq ?_
 refine wp_seq ?_
 refine Rl [] [(10, Pr.ex (i64 (k : Int))), (11, Pr.ex (Value.bool (decide ((k : Int) < ((35 : Nat) : Int)))))] 2 N5 D5 ?_ ?_
 refine Ac ?_ (Ac ?_ (Az _))
 exact Am s7_5 rfl fun _ => rfl
 exact Ap fun aq wq _ hO hR hT => does_lss (a := (k : Int)) (b := ((35 : Nat) : Int)) (hT 10 rfl rfl) rfl eR
 intro a6 wd6 N6 D6 hO hR hA hU
 obtain ⟨_, t11, _⟩ := hA
 have E6 := E5.trans hR
 have s2_6 := oT hO s2_5 rfl
 have s5_6 := oT hO s5_5 rfl
 have s6_6 := oT hO s6_5 rfl
 have s7_6 := oT hO s7_5 rfl
 have B2_6 := B2_5.ext' hR
 have B3_6 := B3_5.ext' hR
 have X5_6 := X5_5.ext' hR
 have hsxo_6 := hsxo_5.ext' hR
 have hoxo_6 := hoxo_5.ext' hR
 have O5_6 := O5_5.ext' hR
 have s11_6 : get a6 11 = Value.bool (decide ((k : Int) < ((35 : Nat) : Int))) := t11
 clear E5 N5 D5 s2_5 s5_5 s6_5 s7_5 B2_5 B3_5 X5_5 hsxo_5 hoxo_5 O5_5
 refine tail_nil ?_
 refine wp_if (B := decide ((k : Int) < ((35 : Nat) : Int))) s11_6 (fun hc0 => ?_) (fun hc0 => ?_)
 have hc0 := of_decide_eq_true hc0
 have hk35 : k < 35 := by omega
 have hle := steps_le msg k
 refine wp_skip ?_
 refine wp_seq ?_
 refine wp_block ?_
 refine Ra [] [(14, Pr.ex (xo)), (15, Pr.ex (Dg.val (seed))), (16, Pr.ex (i64 (k : Int))), (17, Pr.ex (Dg.val (Sd.start seed k))), (18, Pr.ex (x5)), (19, Pr.ex (i64 (k : Int))), (20, Pr.pt' 0 0 [i64 (((steps msg).getD k 0 : Nat) : Int)]), (21, Pr.ex (i64 (((steps msg).getD k 0 : Nat) : Int))), (22, Pr.ex (Dg.val (walk (Sd.start seed k) ((steps msg).getD k 0)))), (23, Pr.own' DG wd6.heap.size 24 ([walk (Sd.start seed k) ((steps msg).getD k 0)]))] 10 mixed N6 D6 ?_ ?_
 refine Ac ?_ (Ac ?_ (Ac ?_ (Ac ?_ (Ac ?_ (Ac ?_ (Ac ?_ (Ac ?_ (Ac ?_ (Ac ?_ (Az _))))))))))
 exact Am s6_6 rfl fun _ => rfl
 exact Ad fun aq wq _ hO hR hT => does_loadD (o := 0) (n := 4) (mid := [w32 (seed).a, w32 (seed).b, w32 (seed).c, w32 (seed).d]) (oT hO s2_6 rfl) (B2_6.ext' hR) rfl rfl (nB rfl) row_24 rfl eR
 exact Am s7_6 rfl fun _ => rfl
 exact Ad fun aq wq _ hO hR hT => does_ret (vs := #[Dg.val (seed), i64 (k : Int)]) call_76 (args2 (hT 15 rfl rfl) (hT 16 rfl rfl)) rfl ((beginR seed k wq).mono fun v w2 h => ⟨h.2, h.1⟩)
 exact Am s5_6 rfl fun _ => rfl
 exact Am s7_6 rfl fun _ => rfl
 exact Ad fun aq wq _ hO hR hT => does_indexSl (T := NI) (xs := steps msg) (i := (k : Int)) (X := (steps msg).getD k 0) sli_103 rfl (SlT.at (hT 18 rfl rfl) (X5_6.ext' hR)) (hT 19 rfl rfl) (by omega) (steps_get msg hk35) (fun v h => ⟨Ext.refl _, h⟩)
 exact Ad fun aq wq _ hO hR hT => does_loadP1 (V := i64 (((steps msg).getD k 0 : Nat) : Int)) (hT 20 rfl rfl) one_3 eR
 exact Ad fun aq wq _ hO hR hT => does_ret (vs := #[Dg.val (Sd.start seed k), i64 (((steps msg).getD k 0 : Nat) : Int)]) call_70 (args2 (hT 17 rfl rfl) (hT 21 rfl rfl)) rfl ((walkR (Sd.start seed k) ((steps msg).getD k 0) wq (by omega)).mono fun v w2 h => ⟨h.2, h.1⟩)
 exact Ad fun aq wq _ hO hR hT => does_slice1 (T := DG) (X := walk (Sd.start seed k) ((steps msg).getD k 0)) (V := Dg.val (walk (Sd.start seed k) ((steps msg).getD k 0))) app_28 rfl (by decide) (hT 22 rfl rfl) rfl (fun v w2 he _ ho => ⟨he, OwnT.base ho hR.size'⟩)
 intro a7 wd7 N7 D7 hO hR hA hU
 obtain ⟨t14, _, _, _, _, _, _, _, _, t23, _⟩ := hA
 have E7 := E6.trans hR
 have s2_7 := oT hO s2_6 rfl
 have s5_7 := oT hO s5_6 rfl
 have s6_7 := oT hO s6_6 rfl
 have s7_7 := oT hO s7_6 rfl
 have B2_7 := B2_6.ext' hR
 have B3_7 := B3_6.ext' hR
 have X5_7 := X5_6.ext' hR
 have hsxo_7 := hsxo_6.ext' hR
 have hoxo_7 := hoxo_6.ext' hR
 have O5_7 := O5_6.ext' hR
 have s14_7 : get a7 14 = xo := t14
 obtain ⟨x23, s23_7⟩ : ∃ x, get a7 23 = x := ⟨_, rfl⟩
 replace t23 : OwnT DG wd6.heap.size 24 ([walk (Sd.start seed k) ((steps msg).getD k 0)]) x23 wd7 := by rw [← s23_7]; exact t23
 have nbo_x23_b2 := Ob1 t23 B2_6
 have nbo_x23_b3 := Ob1 t23 B3_6
 have no_x23_xo := Oo t23 hoxo_6
 have no_x23_x5 := Oo t23 O5_6
 have X23_7 := t23.sl.wide (Nat.zero_le _) (.inl rfl)
 have O23_7 := OwnT.base t23 E6.size'
 clear E6 N6 D6 s2_6 s5_6 s6_6 s7_6 s11_6 B2_6 B3_6 X5_6 hsxo_6 hoxo_6 O5_6
 refine tail_put rfl rfl N7 D7 (by decide) (does_append (T := DG) (base := w0.heap.size) (xs := (List.range k).map (sgn seed msg)) (ys := [walk (Sd.start seed k) ((steps msg).getD k 0)]) (v := xo) app_28 s14_7 hoxo_7 (SlT.at s23_7 X23_7) (by simp) (by simp only [List.length_map, List.length_range, List.length_cons, List.length_nil]; omega) (by simp only [List.length_map, List.length_range, List.length_cons, List.length_nil]; omega) E7.size' (fun x24 wd8 hX O24_8 hk a8 N8 D8 hv hO => ?_))
 have E8 := E7.since hX (fun b hb => Nat.le_trans (Nat.le_refl _) (OwnT.block_lt hoxo_7 hb).1)
 have B2_8 := B2_7.ext hX nbo_xo_b2
 have nbo_x24_b2 : x24.ownBlock ≠ some b2 := fun e => (hk _ e).elim nbo_xo_b2 (fun h => Nat.lt_irrefl _ (Nat.lt_of_lt_of_le B2_7.lt h))
 have B3_8 := B3_7.ext hX nbo_xo_b3
 have nbo_x24_b3 : x24.ownBlock ≠ some b3 := fun e => (hk _ e).elim nbo_xo_b3 (fun h => Nat.lt_irrefl _ (Nat.lt_of_lt_of_le B3_7.lt h))
 have no_xo_x5 := OwnT.apart hoxo_7 O5_7 (by decide)
 have O5_8 := OwnT.ext O5_7 hX (fun k hk e => no_xo_x5 k e hk)
 have no_x24_x5 : ∀ k, x24.ownBlock = some k → x5.ownBlock ≠ some k := fun k e e' => (hk k e).elim (fun h => no_xo_x5 k h e') (fun h => Nat.lt_irrefl _ (Nat.lt_of_lt_of_le (OwnT.block_lt O5_7 e').2 h))
 have X5_8 := O5_8.sl.wide (Nat.zero_le _) (.inl rfl)
 have O23_8 := OwnT.ext O23_7 hX (fun k hk e => no_x23_xo k hk e)
 have no_x24_x23 : ∀ k, x24.ownBlock = some k → x23.ownBlock ≠ some k := fun k e e' => (hk k e).elim (fun h => no_x23_xo k e' h) (fun h => Nat.lt_irrefl _ (Nat.lt_of_lt_of_le (OwnT.block_lt O23_7 e').2 h))
 have X23_8 := O23_8.sl.wide (Nat.zero_le _) (.inl rfl)
 have X24_8 := O24_8.sl.wide (Nat.zero_le _) (.inl rfl)
 rw [(show (List.range k).map (sgn seed msg) ++ [walk (Sd.start seed k) ((steps msg).getD k 0)] = (List.range (k + 1)).map (sgn seed msg) from range_step rfl)] at O24_8 X24_8
 have s24_8 := hv
 have s2_8 := oT hO s2_7 rfl
 have s5_8 := oT hO s5_7 rfl
 have s6_8 := oT hO s6_7 rfl
 have s7_8 := oT hO s7_7 rfl
 clear hO hv hX hk N7 D7 E7 B2_7 B3_7 O5_7 O23_7 s2_7 s5_7 s6_7 s7_7 s14_7 s23_7
 refine tail_put rfl rfl N8 D8 (by decide) (does_assign (V := x24) s24_8 (fun a9 N9 D9 hv hO => ?_))
 have s6_9 := hv
 have s2_9 := oT hO s2_8 rfl
 have s5_9 := oT hO s5_8 rfl
 have s7_9 := oT hO s7_8 rfl
 clear hO hv N8 D8 s2_8 s5_8 s7_8 s24_8 s6_8
 refine tail_nil ?_
 refine Rl [] [(12, Pr.ex (i64 (k : Int))), (13, Pr.ex (i64 ((k + 1 : Nat) : Int)))] 2 N9 D9 ?_ ?_
 refine Ac ?_ (Ac ?_ (Az _))
 exact Am s7_9 rfl fun _ => rfl
 exact Ap fun aq wq _ hO hR hT => does_add (a := (k : Int)) (b := ((1 : Nat) : Int)) (r := ((k + 1 : Nat) : Int)) (hT 12 rfl rfl) rfl (by omega) (by omega) (by omega) eR
 intro a10 wd10 N10 D10 hO hR hA hU
 obtain ⟨_, t13, _⟩ := hA
 have E10 := E8.trans hR
 have s2_10 := oT hO s2_9 rfl
 have s5_10 := oT hO s5_9 rfl
 have s6_10 := oT hO s6_9 rfl
 have s7_10 := oT hO s7_9 rfl
 have B2_10 := B2_8.ext' hR
 have B3_10 := B3_8.ext' hR
 have X5_10 := X5_8.ext' hR
 have X23_10 := X23_8.ext' hR
 have X24_10 := X24_8.ext' hR
 have O5_10 := O5_8.ext' hR
 have O23_10 := O23_8.ext' hR
 have O24_10 := O24_8.ext' hR
 have s13_10 : get a10 13 = i64 ((k + 1 : Nat) : Int) := t13
 clear E8 N9 D9 s2_9 s5_9 s6_9 s7_9 B2_8 B3_8 X5_8 X23_8 X24_8 O5_8 O23_8 O24_8
 refine tail_put rfl rfl N10 D10 (by decide) (does_assign (V := i64 ((k + 1 : Nat) : Int)) s13_10 (fun a11 N11 D11 hv hO => ?_))
 have s7_11 := hv
 have s2_11 := oT hO s2_10 rfl
 have s5_11 := oT hO s5_10 rfl
 have s6_11 := oT hO s6_10 rfl
 clear hO hv N10 D10 s2_10 s5_10 s6_10 s13_10 s7_10
 refine tail_nil ?_
 exact ⟨_, by omega, k + 1, x24, rfl, N11, D11, s2_11, s5_11, s6_11, s7_11, E10, B2_10, B3_10, X5_10, O24_10, nbo_x24_b2, nbo_x24_b3, O5_10, nbo_x5_b2, nbo_x5_b3, by omega⟩
 have hc0 := of_decide_eq_false hc0
 have hk35 : k = 35 := by omega
 refine wp_exit ?_
 refine wp_seq ?_
 refine Rl [] [(25, Pr.ex (xo)), (4, Pr.ex (xo))] 2 N6 D6 ?_ ?_
 refine Ac ?_ (Ac ?_ (Az _))
 exact Am s6_6 rfl fun _ => rfl
 exact Ap fun aq wq _ hO hR hT => does_assign (V := xo) (hT 25 rfl rfl) eR
 intro a12 wd12 N12 D12 hO hR hA hU
 obtain ⟨_, t4, _⟩ := hA
 have E12 := E6.trans hR
 have B2_12 := B2_6.ext' hR
 have B3_12 := B3_6.ext' hR
 have X5_12 := X5_6.ext' hR
 have hsxo_12 := hsxo_6.ext' hR
 have hoxo_12 := hoxo_6.ext' hR
 have O5_12 := O5_6.ext' hR
 have s4_12 : get a12 4 = xo := t4
 clear E6 N6 D6 s2_6 s5_6 s6_6 s7_6 s11_6 B2_6 B3_6 X5_6 hsxo_6 hoxo_6 O5_6
 refine tail_nil ?_
 refine wp_ret ?_
 refine res_one (V := xo) rfl D12 s4_12 ?_
 have ho := hoxo_12
 rw [hk35, ← signed_eq] at ho
 exact ⟨ho, E12⟩

end Go.Proofs.YtmmghpbncejfiaaDoor
