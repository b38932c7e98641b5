/- The walks of functions of the program: printed. -/
import Derived.Test.YtmmghpbncejfiaaDoorKB
import Derived.Test.YtmmghpbncejfiaaDoorG60
import Derived.Test.YtmmghpbncejfiaaDoorG61
import Derived.Test.YtmmghpbncejfiaaDoorG90
import Derived.Test.YtmmghpbncejfiaaDoorF0
set_option maxRecDepth 100000
namespace Go.Proofs.YtmmghpbncejfiaaDoor
open Go Go.RowKit Sk Sd
theorem sign1 (seed msg : Dg) (w0 : World) (hL : Laid w0) :
    Gives Tryd.prog 54 #[Dg.val (seed), Dg.val (msg)] w0 (Pr.own' DG w0.heap.size 24 (signed seed msg)) := by
 refine enter (N := 26) Tryd.func54 rfl rfl ?_
 intro a0 N0 D0 hA
 have s0_0 : get a0 0 = Dg.val (seed) := hA 0 _ rfl
 have s1_0 : get a0 1 = Dg.val (msg) := hA 1 _ rfl
 clear hA
 have E0 : Ext w0 w0 := Ext.refl w0
 refine wp_seq ?_
 refine Rl [2, 3] [(2, Pr.box' w0.heap.size 24 [w32 (seed).a, w32 (seed).b, w32 (seed).c, w32 (seed).d]), (3, Pr.box' w0.heap.size 24 [w32 (msg).a, w32 (msg).b, w32 (msg).c, w32 (msg).d]), (4, Pr.ex (Value.slice none 0 0))] 3 N0 D0 ?_ ?_
 refine Ac ?_ (Ac ?_ (Ac ?_ (Az _)))
 refine Ask.fresh rfl rfl ?_
 intro aq wq hNq hO hR hT
 exact does_box (V := Dg.val (seed)) (oT hO s0_0 rfl) (fun b w2 he hlo hb => ⟨he, ⟨b, rfl, Nat.le_trans hR.size' hlo, hb⟩, ⟨b, rfl, hlo, hb.lt⟩⟩)
 refine Ask.fresh rfl rfl ?_
 intro aq wq hNq hO hR hT
 exact does_box (V := Dg.val (msg)) (oT hO s1_0 rfl) (fun b w2 he hlo hb => ⟨he, ⟨b, rfl, Nat.le_trans hR.size' hlo, hb⟩, ⟨b, rfl, hlo, hb.lt⟩⟩)
 exact Ap fun aq wq _ hO hR hT => does_assign (V := Value.slice none 0 0) rfl eR
 intro a1 wd1 N1 D1 hO hR hA hU
 obtain ⟨t2, t3, _, _⟩ := hA
 have E1 := E0.trans hR
 obtain ⟨b2, s2_1, lo_b2, B2_1⟩ := t2
 have fr_b2 : w0.heap.size ≤ b2 := Nat.le_trans E0.size' lo_b2
 obtain ⟨b3, s3_1, lo_b3, B3_1⟩ := t3
 have fr_b3 : w0.heap.size ≤ b3 := Nat.le_trans E0.size' lo_b3
 obtain ⟨u0, ⟨u1, _⟩⟩ := hU
 have ne_b2_b3 : b2 ≠ b3 := fun e => u0 3 (by decide) (by rw [s2_1, s3_1, e])
 clear E0 N0 D0 s0_0 s1_0
 refine tail_nil ?_
 refine wp_seq ?_
 refine Rl [] [(5, Pr.ex (Value.slice none 0 0))] 1 N1 D1 ?_ ?_
 refine Ac ?_ (Az _)
 exact Ap fun aq wq _ hO hR hT => does_assign (V := Value.slice none 0 0) rfl eR
 intro a2 wd2 N2 D2 hO hR hA hU
 obtain ⟨t5, _⟩ := hA
 have E2 := E1.trans hR
 have s2_2 := oT hO s2_1 rfl
 have s3_2 := oT hO s3_1 rfl
 have B2_2 := B2_1.ext' hR
 have B3_2 := B3_1.ext' hR
 have s5_2 : get a2 5 = Value.slice none 0 0 := t5
 clear E1 N1 D1 s2_1 s3_1 B2_1 B3_1
 refine tail_nil ?_
 refine wp_seq ?_
 refine wp_seq ?_
 refine Rl [] [(8, Pr.ex (Dg.val (msg))), (9, Pr.own' NI wd2.heap.size 3 (steps msg)), (10, Pr.ex (i64 (((steps msg).length : Nat) : Int))), (11, Pr.ex (i64 ((0 : Nat) : Int)))] 4 N2 D2 ?_ ?_
 refine Ac ?_ (Ac ?_ (Ac ?_ (Ac ?_ (Az _))))
 exact Ap fun aq wq _ hO hR hT => does_loadD (o := 0) (n := 4) (mid := [w32 (msg).a, w32 (msg).b, w32 (msg).c, w32 (msg).d]) (oT hO s3_2 rfl) (B3_2.ext' hR) rfl rfl (nB rfl) row_24 rfl eR
 exact Ap fun aq wq _ hO hR hT => does_ret (vs := #[Dg.val (msg)]) call_63 (args1 (hT 8 rfl rfl)) rfl ((steps_ msg wq).mono fun v w2 h => ⟨h.2, OwnT.base h.1 hR.size'⟩)
 exact Ap fun aq wq _ hO hR hT => does_len (T := NI) (xs := steps msg) sli_103 ((OwnT.sl (hT 9 rfl rfl)).wide (Nat.zero_le _) (.inl rfl)) eR
 exact Ap fun aq wq _ hO hR hT => does_move (V := i64 ((0 : Nat) : Int)) rfl eR
 intro a3 wd3 N3 D3 hO hR hA hU
 obtain ⟨_, t9, t10, t11, _⟩ := hA
 have E3 := E2.trans hR
 have s2_3 := oT hO s2_2 rfl
 have s5_3 := oT hO s5_2 rfl
 have B2_3 := B2_2.ext' hR
 have B3_3 := B3_2.ext' hR
 obtain ⟨x9, s9_3⟩ : ∃ x, get a3 9 = x := ⟨_, rfl⟩
 replace t9 : OwnT NI wd2.heap.size 3 (steps msg) x9 wd3 := by rw [← s9_3]; exact t9
 have nbo_x9_b2 := Ob1 t9 B2_2
 have nbo_x9_b3 := Ob1 t9 B3_2
 have X9_3 := t9.sl.wide (Nat.zero_le _) (.inl rfl)
 have O9_3 := OwnT.base t9 E2.size'
 have s10_3 : get a3 10 = i64 (((steps msg).length : Nat) : Int) := t10
 have s11_3 : get a3 11 = i64 ((0 : Nat) : Int) := t11
 clear E2 N2 D2 s2_2 s3_2 s5_2 B2_2 B3_2
 refine tail_nil ?_
 refine wp_block ?_
 refine loop_g (fun mz az wz => ∃ k : Nat, ∃ xo : Value, mz = 35 - k ∧ (az.tmps.size = 26) ∧ (az.defers = []) ∧ (get az 2 = Value.pointer (some ⟨b2, 0, none⟩)) ∧ (get az 5 = xo) ∧ (get az 9 = x9) ∧ (get az 10 = i64 (((steps msg).length : Nat) : Int)) ∧ (get az 11 = i64 (k : Int)) ∧ (Ext w0 wz) ∧ (Has wz b2 24 [w32 (seed).a, w32 (seed).b, w32 (seed).c, w32 (seed).d]) ∧ (Has wz b3 24 [w32 (msg).a, w32 (msg).b, w32 (msg).c, w32 (msg).d]) ∧ (SlT NI 0 0 (steps msg) x9 wz) ∧ (OwnT DG w0.heap.size 24 ((List.range k).map (sgn seed msg)) xo wz) ∧ (xo.ownBlock ≠ some b2) ∧ (xo.ownBlock ≠ some b3) ∧ (OwnT NI w0.heap.size 3 (steps msg) x9 wz) ∧ (x9.ownBlock ≠ some b2) ∧ (x9.ownBlock ≠ some b3) ∧ (k ≤ 35)) ?_ ?_
 exact ⟨_, 0, (Value.slice none 0 0), rfl, N3, D3, s2_3, s5_3, s9_3, s10_3, s11_3, E3, B2_3, B3_3, X9_3, (OwnT.nil DG w0.heap.size 24 _), (by intro e; cases e), (by intro e; cases e), O9_3, nbo_x9_b2, nbo_x9_b3, by decide⟩
 rintro mz a4 wd4 ⟨k, xo, rfl, N4, D4, s2_4, s5_4, s9_4, s10_4, s11_4, E4, B2_4, B3_4, X9_4, hoxo_4, nbo_xo_b2, nbo_xo_b3, O9_4, nbo_x9_b2, nbo_x9_b3, hk⟩
 have hsxo_4 := hoxo_4.sl.wide (Nat.zero_le _) (.inl rfl)
 have X9_4 := O9_4.sl.wide (Nat.zero_le _) (.inl rfl)
 refine wp_seq ?_
 refine Rl [] [(12, Pr.ex (Value.bool (decide ((k : Int) < (((steps msg).length : Nat) : Int)))))] 1 N4 D4 ?_ ?_
 refine Ac ?_ (Az _)
 exact Ap fun aq wq _ hO hR hT => does_lss (a := (k : Int)) (b := (((steps msg).length : Nat) : Int)) (oT hO s11_4 rfl) (oT hO s10_4 rfl) eR
 intro a5 wd5 N5 D5 hO hR hA hU
 obtain ⟨t12, _⟩ := hA
 have E5 := E4.trans hR
 have s2_5 := oT hO s2_4 rfl
 have s5_5 := oT hO s5_4 rfl
 have s9_5 := oT hO s9_4 rfl
 have s10_5 := oT hO s10_4 rfl
 have s11_5 := oT hO s11_4 rfl
 have B2_5 := B2_4.ext' hR
 have B3_5 := B3_4.ext' hR
 have X9_5 := X9_4.ext' hR
 have hsxo_5 := hsxo_4.ext' hR
 have hoxo_5 := hoxo_4.ext' hR
 have O9_5 := O9_4.ext' hR
 have s12_5 : get a5 12 = Value.bool (decide ((k : Int) < (((steps msg).length : Nat) : Int))) := t12
 clear E4 N4 D4 s2_4 s5_4 s9_4 s10_4 s11_4 B2_4 B3_4 X9_4 hsxo_4 hoxo_4 O9_4
 refine tail_nil ?_
 refine wp_seq ?_
 refine wp_if (B := decide ((k : Int) < (((steps msg).length : Nat) : Int))) s12_5 (fun hc0 => ?_) (fun hc0 => ?_)
 have hc0 := of_decide_eq_true hc0
 have hk35 : k < 35 := by have := steps_length msg; omega
 have hle := steps_le msg k
 refine wp_skip ?_
 refine wp_seq ?_
 refine wp_block ?_
 refine wp_seq ?_
 refine Rl [] [(13, Pr.ex (i64 (k : Int))), (14, Pr.pt' 0 0 [i64 (((steps msg).getD k 0 : Nat) : Int)]), (15, Pr.ex (i64 (((steps msg).getD k 0 : Nat) : Int))), (6, Pr.ex (i64 (k : Int))), (7, Pr.ex (i64 (((steps msg).getD k 0 : Nat) : Int)))] 5 N5 D5 ?_ ?_
 refine Ac ?_ (Ac ?_ (Ac ?_ (Ac ?_ (Ac ?_ (Az _)))))
 exact Am s11_5 rfl fun _ => rfl
 exact Ap fun aq wq _ hO hR hT => does_indexSl (T := NI) (xs := steps msg) (i := (k : Int)) (X := (steps msg).getD k 0) sli_103 rfl (SlT.at (oT hO s9_5 rfl) (X9_5.ext' hR)) (oT hO s11_5 rfl) (by omega) (steps_get msg hk35) (fun v h => ⟨Ext.refl _, h⟩)
 exact Ap fun aq wq _ hO hR hT => does_loadP1 (V := i64 (((steps msg).getD k 0 : Nat) : Int)) (hT 14 rfl rfl) one_3 eR
 exact Ap fun aq wq _ hO hR hT => does_assign (V := i64 (k : Int)) (hT 13 rfl rfl) eR
 exact Ap fun aq wq _ hO hR hT => does_assign (V := i64 (((steps msg).getD k 0 : Nat) : Int)) (hT 15 rfl rfl) eR
 intro a6 wd6 N6 D6 hO hR hA hU
 obtain ⟨_, _, _, t6, t7, _⟩ := hA
 have E6 := E5.trans hR
 have s2_6 := oT hO s2_5 rfl
 have s5_6 := oT hO s5_5 rfl
 have s9_6 := oT hO s9_5 rfl
 have s10_6 := oT hO s10_5 rfl
 have s11_6 := oT hO s11_5 rfl
 have B2_6 := B2_5.ext' hR
 have B3_6 := B3_5.ext' hR
 have X9_6 := X9_5.ext' hR
 have hsxo_6 := hsxo_5.ext' hR
 have hoxo_6 := hoxo_5.ext' hR
 have O9_6 := O9_5.ext' hR
 have s6_6 : get a6 6 = i64 (k : Int) := t6
 have s7_6 : get a6 7 = i64 (((steps msg).getD k 0 : Nat) : Int) := t7
 clear E5 N5 D5 s2_5 s5_5 s9_5 s10_5 s11_5 s12_5 B2_5 B3_5 X9_5 hsxo_5 hoxo_5 O9_5
 refine tail_nil ?_
 refine Rl [] [(16, Pr.ex (xo)), (17, Pr.ex (Dg.val (seed))), (18, Pr.ex (i64 (k : Int))), (19, Pr.ex (Dg.val (Sd.start seed k))), (20, Pr.ex (i64 (((steps msg).getD k 0 : Nat) : Int))), (21, Pr.ex (Dg.val (walk (Sd.start seed k) ((steps msg).getD k 0)))), (22, Pr.own' DG wd6.heap.size 24 ([walk (Sd.start seed k) ((steps msg).getD k 0)]))] 7 N6 D6 ?_ ?_
 refine Ac ?_ (Ac ?_ (Ac ?_ (Ac ?_ (Ac ?_ (Ac ?_ (Ac ?_ (Az _)))))))
 exact Am s5_6 rfl fun _ => rfl
 exact Ap fun aq wq _ hO hR hT => does_loadD (o := 0) (n := 4) (mid := [w32 (seed).a, w32 (seed).b, w32 (seed).c, w32 (seed).d]) (oT hO s2_6 rfl) (B2_6.ext' hR) rfl rfl (nB rfl) row_24 rfl eR
 exact Am s6_6 rfl fun _ => rfl
 exact Ap fun aq wq _ hO hR hT => does_ret (vs := #[Dg.val (seed), i64 (k : Int)]) call_79 (args2 (hT 17 rfl rfl) (hT 18 rfl rfl)) rfl ((begin_ seed k wq (hL.ext (E6.trans hR))).mono fun v w2 h => ⟨h.2, h.1⟩)
 exact Am s7_6 rfl fun _ => rfl
 exact Ap fun aq wq _ hO hR hT => does_ret (vs := #[Dg.val (Sd.start seed k), i64 (((steps msg).getD k 0 : Nat) : Int)]) call_66 (args2 (hT 19 rfl rfl) (hT 20 rfl rfl)) rfl ((along_ (Sd.start seed k) ((steps msg).getD k 0) wq (hL.ext (E6.trans hR)) (by omega)).mono fun v w2 h => ⟨h.2, h.1⟩)
 exact Ap fun aq wq _ hO hR hT => does_slice1 (T := DG) (X := walk (Sd.start seed k) ((steps msg).getD k 0)) (V := Dg.val (walk (Sd.start seed k) ((steps msg).getD k 0))) app_28 rfl (by decide) (hT 21 rfl rfl) rfl (fun v w2 he _ ho => ⟨he, OwnT.base ho hR.size'⟩)
 intro a7 wd7 N7 D7 hO hR hA hU
 obtain ⟨t16, _, _, _, _, _, t22, _⟩ := hA
 have E7 := E6.trans hR
 have s2_7 := oT hO s2_6 rfl
 have s5_7 := oT hO s5_6 rfl
 have s9_7 := oT hO s9_6 rfl
 have s10_7 := oT hO s10_6 rfl
 have s11_7 := oT hO s11_6 rfl
 have B2_7 := B2_6.ext' hR
 have B3_7 := B3_6.ext' hR
 have X9_7 := X9_6.ext' hR
 have hsxo_7 := hsxo_6.ext' hR
 have hoxo_7 := hoxo_6.ext' hR
 have O9_7 := O9_6.ext' hR
 have s16_7 : get a7 16 = xo := t16
 obtain ⟨x22, s22_7⟩ : ∃ x, get a7 22 = x := ⟨_, rfl⟩
 replace t22 : OwnT DG wd6.heap.size 24 ([walk (Sd.start seed k) ((steps msg).getD k 0)]) x22 wd7 := by rw [← s22_7]; exact t22
 have nbo_x22_b2 := Ob1 t22 B2_6
 have nbo_x22_b3 := Ob1 t22 B3_6
 have no_x22_xo := Oo t22 hoxo_6
 have no_x22_x9 := Oo t22 O9_6
 have X22_7 := t22.sl.wide (Nat.zero_le _) (.inl rfl)
 have O22_7 := OwnT.base t22 E6.size'
 clear E6 N6 D6 s2_6 s5_6 s6_6 s7_6 s9_6 s10_6 s11_6 B2_6 B3_6 X9_6 hsxo_6 hoxo_6 O9_6
 refine tail_put rfl rfl N7 D7 (by decide) (does_append (T := DG) (base := w0.heap.size) (xs := (List.range k).map (sgn seed msg)) (ys := [walk (Sd.start seed k) ((steps msg).getD k 0)]) (v := xo) app_28 s16_7 hoxo_7 (SlT.at s22_7 X22_7) (by simp) (by simp only [List.length_map, List.length_range, List.length_cons, List.length_nil]; omega) (by simp only [List.length_map, List.length_range, List.length_cons, List.length_nil]; omega) E7.size' (fun x23 wd8 hX O23_8 hk a8 N8 D8 hv hO => ?_))
 have E8 := E7.since hX (fun b hb => Nat.le_trans (Nat.le_refl _) (OwnT.block_lt hoxo_7 hb).1)
 have B2_8 := B2_7.ext hX nbo_xo_b2
 have nbo_x23_b2 : x23.ownBlock ≠ some b2 := fun e => (hk _ e).elim nbo_xo_b2 (fun h => Nat.lt_irrefl _ (Nat.lt_of_lt_of_le B2_7.lt h))
 have B3_8 := B3_7.ext hX nbo_xo_b3
 have nbo_x23_b3 : x23.ownBlock ≠ some b3 := fun e => (hk _ e).elim nbo_xo_b3 (fun h => Nat.lt_irrefl _ (Nat.lt_of_lt_of_le B3_7.lt h))
 have no_xo_x9 := OwnT.apart hoxo_7 O9_7 (by decide)
 have O9_8 := OwnT.ext O9_7 hX (fun k hk e => no_xo_x9 k e hk)
 have no_x23_x9 : ∀ k, x23.ownBlock = some k → x9.ownBlock ≠ some k := fun k e e' => (hk k e).elim (fun h => no_xo_x9 k h e') (fun h => Nat.lt_irrefl _ (Nat.lt_of_lt_of_le (OwnT.block_lt O9_7 e').2 h))
 have X9_8 := O9_8.sl.wide (Nat.zero_le _) (.inl rfl)
 have O22_8 := OwnT.ext O22_7 hX (fun k hk e => no_x22_xo k hk e)
 have no_x23_x22 : ∀ k, x23.ownBlock = some k → x22.ownBlock ≠ some k := fun k e e' => (hk k e).elim (fun h => no_x22_xo k e' h) (fun h => Nat.lt_irrefl _ (Nat.lt_of_lt_of_le (OwnT.block_lt O22_7 e').2 h))
 have X22_8 := O22_8.sl.wide (Nat.zero_le _) (.inl rfl)
 have X23_8 := O23_8.sl.wide (Nat.zero_le _) (.inl rfl)
 rw [(show (List.range k).map (sgn seed msg) ++ [walk (Sd.start seed k) ((steps msg).getD k 0)] = (List.range (k + 1)).map (sgn seed msg) from range_step rfl)] at O23_8 X23_8
 have s23_8 := hv
 have s2_8 := oT hO s2_7 rfl
 have s5_8 := oT hO s5_7 rfl
 have s9_8 := oT hO s9_7 rfl
 have s10_8 := oT hO s10_7 rfl
 have s11_8 := oT hO s11_7 rfl
 clear hO hv hX hk N7 D7 E7 B2_7 B3_7 O9_7 O22_7 s2_7 s5_7 s9_7 s10_7 s11_7 s16_7 s22_7
 refine tail_put rfl rfl N8 D8 (by decide) (does_assign (V := x23) s23_8 (fun a9 N9 D9 hv hO => ?_))
 have s5_9 := hv
 have s2_9 := oT hO s2_8 rfl
 have s9_9 := oT hO s9_8 rfl
 have s10_9 := oT hO s10_8 rfl
 have s11_9 := oT hO s11_8 rfl
 clear hO hv N8 D8 s2_8 s9_8 s10_8 s11_8 s23_8 s5_8
 refine tail_nil ?_
 refine Rl [] [(24, Pr.ex (i64 ((k + 1 : Nat) : Int)))] 1 N9 D9 ?_ ?_
 refine Ac ?_ (Az _)
 exact Ap fun aq wq _ hO hR hT => does_add (a := (k : Int)) (b := ((1 : Nat) : Int)) (r := ((k + 1 : Nat) : Int)) (oT hO s11_9 rfl) rfl (by omega) (by omega) (by omega) eR
 intro a10 wd10 N10 D10 hO hR hA hU
 obtain ⟨t24, _⟩ := hA
 have E10 := E8.trans hR
 have s2_10 := oT hO s2_9 rfl
 have s5_10 := oT hO s5_9 rfl
 have s9_10 := oT hO s9_9 rfl
 have s10_10 := oT hO s10_9 rfl
 have s11_10 := oT hO s11_9 rfl
 have B2_10 := B2_8.ext' hR
 have B3_10 := B3_8.ext' hR
 have X9_10 := X9_8.ext' hR
 have X22_10 := X22_8.ext' hR
 have X23_10 := X23_8.ext' hR
 have O9_10 := O9_8.ext' hR
 have O22_10 := O22_8.ext' hR
 have O23_10 := O23_8.ext' hR
 have s24_10 : get a10 24 = i64 ((k + 1 : Nat) : Int) := t24
 clear E8 N9 D9 s2_9 s5_9 s9_9 s10_9 s11_9 B2_8 B3_8 X9_8 X22_8 X23_8 O9_8 O22_8 O23_8
 refine tail_put rfl rfl N10 D10 (by decide) (does_move (V := i64 ((k + 1 : Nat) : Int)) s24_10 (fun a11 N11 D11 hv hO => ?_))
 have s11_11 := hv
 have s2_11 := oT hO s2_10 rfl
 have s5_11 := oT hO s5_10 rfl
 have s9_11 := oT hO s9_10 rfl
 have s10_11 := oT hO s10_10 rfl
 clear hO hv N10 D10 s2_10 s5_10 s9_10 s10_10 s24_10 s11_10
 refine tail_nil ?_
 exact ⟨_, by omega, k + 1, x23, rfl, N11, D11, s2_11, s5_11, s9_11, s10_11, s11_11, E10, B2_10, B3_10, X9_10, O23_10, nbo_x23_b2, nbo_x23_b3, O9_10, nbo_x9_b2, nbo_x9_b3, by omega⟩
 have hc0 := of_decide_eq_false hc0
 have hk35 : k = 35 := by have := steps_length msg; omega
 refine wp_exit ?_
 refine wp_seq ?_
 refine Rl [] [(25, Pr.ex (xo)), (4, Pr.ex (xo))] 2 N5 D5 ?_ ?_
 refine Ac ?_ (Ac ?_ (Az _))
 exact Am s5_5 rfl fun _ => rfl
 exact Ap fun aq wq _ hO hR hT => does_assign (V := xo) (hT 25 rfl rfl) eR
 intro a12 wd12 N12 D12 hO hR hA hU
 obtain ⟨_, t4, _⟩ := hA
 have E12 := E5.trans hR
 have B2_12 := B2_5.ext' hR
 have B3_12 := B3_5.ext' hR
 have X9_12 := X9_5.ext' hR
 have hsxo_12 := hsxo_5.ext' hR
 have hoxo_12 := hoxo_5.ext' hR
 have O9_12 := O9_5.ext' hR
 have s4_12 : get a12 4 = xo := t4
 clear E5 N5 D5 s2_5 s5_5 s9_5 s10_5 s11_5 s12_5 B2_5 B3_5 X9_5 hsxo_5 hoxo_5 O9_5
 refine tail_nil ?_
 refine wp_ret ?_
 refine res_one (V := xo) rfl D12 s4_12 ?_
 have ho := hoxo_12
 rw [hk35, ← signed_eq] at ho
 exact ⟨ho, E12⟩

end Go.Proofs.YtmmghpbncejfiaaDoor
