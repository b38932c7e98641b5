/- The walks of functions of the program: printed. -/
import Derived.Test.YtmmghpbncejfiaaDoorK
import Derived.Test.YtmmghpbncejfiaaDoorG3
import Derived.Test.YtmmghpbncejfiaaDoorG63
import Derived.Test.YtmmghpbncejfiaaDoorF0
set_option maxRecDepth 100000
namespace Go.Proofs.YtmmghpbncejfiaaDoor
open Go Go.RowKit Sk Sd
theorem stepsR (m : Dg) (w0 : World) :
    Gives Tryd.prog 69 #[Dg.val (m)] w0 (Pr.own' NI w0.heap.size 3 (steps m)) := by
 refine enter (N := 49) Tryd.func69 rfl rfl ?_
 intro a0 N0 D0 hA
 have s0_0 : get a0 0 = Dg.val (m) := hA 0 _ rfl
 clear hA
 have E0 : Ext w0 w0 := Ext.refl w0
 refine wp_seq ?_
 refine Rl [1] [(1, Pr.box' w0.heap.size 24 [w32 (m).a, w32 (m).b, w32 (m).c, w32 (m).d]), (2, Pr.ex (Value.slice none 0 0))] 2 N0 D0 ?_ ?_
 refine Ac ?_ (Ac ?_ (Az _))
 refine Ask.fresh rfl rfl ?_
 intro aq wq hNq hO hR hT
 exact does_box (V := Dg.val (m)) (oT hO s0_0 rfl) (fun b w2 he hlo hb => ⟨he, ⟨b, rfl, Nat.le_trans hR.size' hlo, hb⟩, ⟨b, rfl, hlo, hb.lt⟩⟩)
 exact Ap fun aq wq _ hO hR hT => does_assign (V := Value.slice none 0 0) rfl eR
 intro a1 wd1 N1 D1 hO hR hA hU
 obtain ⟨t1, _, _⟩ := hA
 have E1 := E0.trans hR
 obtain ⟨b1, s1_1, lo_b1, B1_1⟩ := t1
 have fr_b1 : w0.heap.size ≤ b1 := Nat.le_trans E0.size' lo_b1
 clear E0 N0 D0 s0_0
 refine tail_nil ?_
 refine wp_seq ?_
 refine Rl [] [(8, Pr.ex (Dg.val (m))), (9, Pr.ex (str ((digits m).map hexc))), (3, Pr.ex (str ((digits m).map hexc)))] 3 N1 D1 ?_ ?_
 refine Ac ?_ (Ac ?_ (Ac ?_ (Az _)))
 exact Ap fun aq wq _ hO hR hT => does_loadD (o := 0) (n := 4) (mid := [w32 (m).a, w32 (m).b, w32 (m).c, w32 (m).d]) (oT hO s1_1 rfl) (B1_1.ext' hR) rfl rfl (nB rfl) row_24 rfl eR
 exact Ap fun aq wq _ hO hR hT => does_ret (vs := #[Dg.val (m)]) call_90 (args1 (hT 8 rfl rfl)) rfl ((text3 m wq).mono fun v w2 h => ⟨h.2, h.1⟩)
 exact Ap fun aq wq _ hO hR hT => does_assign (V := str ((digits m).map hexc)) (hT 9 rfl rfl) eR
 intro a2 wd2 N2 D2 hO hR hA hU
 obtain ⟨_, _, t3, _⟩ := hA
 have E2 := E1.trans hR
 have B1_2 := B1_1.ext' hR
 have s3_2 : get a2 3 = str ((digits m).map hexc) := t3
 clear E1 N1 D1 s1_1 B1_1
 refine tail_nil ?_
 refine wp_seq ?_
 refine Rl [] [(4, Pr.ex (Value.slice none 0 0))] 1 N2 D2 ?_ ?_
 refine Ac ?_ (Az _)
 exact Ap fun aq wq _ hO hR hT => does_assign (V := Value.slice none 0 0) rfl eR
 intro a3 wd3 N3 D3 hO hR hA hU
 obtain ⟨t4, _⟩ := hA
 have E3 := E2.trans hR
 have s3_3 := oT hO s3_2 rfl
 have B1_3 := B1_2.ext' hR
 have s4_3 : get a3 4 = Value.slice none 0 0 := t4
 clear E2 N2 D2 s3_2 B1_2
 refine tail_nil ?_
 refine wp_seq ?_
 refine Rl [] [(5, Pr.ex (i64 ((0 : Nat) : Int)))] 1 N3 D3 ?_ ?_
 refine Ac ?_ (Az _)
 exact Ap fun aq wq _ hO hR hT => does_assign (V := i64 ((0 : Nat) : Int)) rfl eR
 intro a4 wd4 N4 D4 hO hR hA hU
 obtain ⟨t5, _⟩ := hA
 have E4 := E3.trans hR
 have s3_4 := oT hO s3_3 rfl
 have s4_4 := oT hO s4_3 rfl
 have B1_4 := B1_3.ext' hR
 have s5_4 : get a4 5 = i64 ((0 : Nat) : Int) := t5
 clear E3 N3 D3 s3_3 s4_3 B1_3
 refine tail_nil ?_
 refine wp_seq ?_
 refine wp_seq ?_
 refine Rl [] [(6, Pr.ex (i64 ((0 : Nat) : Int)))] 1 N4 D4 ?_ ?_
 refine Ac ?_ (Az _)
 exact Ap fun aq wq _ hO hR hT => does_assign (V := i64 ((0 : Nat) : Int)) rfl eR
 intro a5 wd5 N5 D5 hO hR hA hU
 obtain ⟨t6, _⟩ := hA
 have E5 := E4.trans hR
 have s3_5 := oT hO s3_4 rfl
 have s4_5 := oT hO s4_4 rfl
 have s5_5 := oT hO s5_4 rfl
 have B1_5 := B1_4.ext' hR
 have s6_5 : get a5 6 = i64 ((0 : Nat) : Int) := t6
 clear E4 N4 D4 s3_4 s4_4 s5_4 B1_4
 refine tail_nil ?_
 refine wp_block ?_
 refine loop_g (fun mz az wz => ∃ k : Nat, ∃ xo : Value, mz = 32 - k ∧ (az.tmps.size = 49) ∧ (az.defers = []) ∧ (get az 3 = str ((digits m).map hexc)) ∧ (get az 4 = xo) ∧ (get az 5 = i64 ((lacks ((digits m).take k) : Nat) : Int)) ∧ (get az 6 = i64 (k : Int)) ∧ (Ext w0 wz) ∧ (Has wz b1 24 [w32 (m).a, w32 (m).b, w32 (m).c, w32 (m).d]) ∧ (OwnT NI w0.heap.size 3 ((digits m).take k) xo wz) ∧ (xo.ownBlock ≠ some b1) ∧ (k ≤ 32)) ?_ ?_
 exact ⟨_, 0, (Value.slice none 0 0), rfl, N5, D5, s3_5, s4_5, s5_5, s6_5, E5, B1_5, (OwnT.nil NI w0.heap.size 3 _), (by intro e; cases e), by decide⟩
 rintro mz a6 wd6 ⟨k, xo, rfl, N6, D6, s3_6, s4_6, s5_6, s6_6, E6, B1_6, hoxo_6, nbo_xo_b1, hk⟩
 have hsxo_6 := hoxo_6.sl.wide (Nat.zero_le _) (.inl rfl)
 refine wp_seq ?_
 refine wp_seq ?_
 refine Rl [] [(10, Pr.ex (i64 (k : Int))), (11, Pr.ex (str ((digits m).map hexc))), (12, Pr.ex (i64 ((((digits m).map hexc).length : Nat) : Int))), (13, Pr.ex (Value.bool (decide ((k : Int) < ((((digits m).map hexc).length : Nat) : Int)))))] 4 N6 D6 ?_ ?_
 refine Ac ?_ (Ac ?_ (Ac ?_ (Ac ?_ (Az _))))
 exact Am s6_6 rfl fun _ => rfl
 exact Am s3_6 rfl fun _ => rfl
 exact Ap fun aq wq _ hO hR hT => does_lenStr (l := (digits m).map hexc) Tryd.underlying9 (hT 11 rfl rfl) eR
 exact Ap fun aq wq _ hO hR hT => does_lss (a := (k : Int)) (b := ((((digits m).map hexc).length : Nat) : Int)) (hT 10 rfl rfl) (hT 12 rfl rfl) eR
 intro a7 wd7 N7 D7 hO hR hA hU
 obtain ⟨_, _, _, t13, _⟩ := hA
 have E7 := E6.trans hR
 have s3_7 := oT hO s3_6 rfl
 have s4_7 := oT hO s4_6 rfl
 have s5_7 := oT hO s5_6 rfl
 have s6_7 := oT hO s6_6 rfl
 have B1_7 := B1_6.ext' hR
 have hsxo_7 := hsxo_6.ext' hR
 have hoxo_7 := hoxo_6.ext' hR
 have s13_7 : get a7 13 = Value.bool (decide ((k : Int) < ((((digits m).map hexc).length : Nat) : Int))) := t13
 clear E6 N6 D6 s3_6 s4_6 s5_6 s6_6 B1_6 hsxo_6 hoxo_6
 refine tail_nil ?_
 refine wp_if (B := decide ((k : Int) < ((((digits m).map hexc).length : Nat) : Int))) s13_7 (fun hc0 => ?_) (fun hc0 => ?_)
 have hc0 := of_decide_eq_true hc0
 have hk32 : k < 32 := by have := digits_length m; simp only [List.length_map] at hc0; omega
 have hdle := digits_getle m k
 have hls := lacks_small m k
 have hls2 := lacks_digit m hk32
 refine wp_skip ?_
 refine wp_seq ?_
 refine wp_block ?_
 refine wp_seq ?_
 refine Rl [] [(16, Pr.ex (str ((digits m).map hexc))), (17, Pr.ex (i64 (k : Int))), (18, Pr.ex (w8 ((hexc ((digits m).getD k 0))))), (19, Pr.ex (w8 (((hexc ((digits m).getD k 0))) - 48))), (20, Pr.ex (i64 (((((hexc ((digits m).getD k 0))) - 48).toNat : Nat) : Int))), (7, Pr.ex (i64 (((((hexc ((digits m).getD k 0))) - 48).toNat : Nat) : Int)))] 6 N7 D7 ?_ ?_
 refine Ac ?_ (Ac ?_ (Ac ?_ (Ac ?_ (Ac ?_ (Ac ?_ (Az _))))))
 exact Am s3_7 rfl fun _ => rfl
 exact Am s6_7 rfl fun _ => rfl
 exact Ap fun aq wq _ hO hR hT => does_indexStr (l := (digits m).map hexc) (i := (k : Int)) (c := (hexc ((digits m).getD k 0))) Tryd.underlying9 (hT 16 rfl rfl) (hT 17 rfl rfl) (by omega) (text_get m hk32) eR
 exact Ap fun aq wq _ hO hR hT => does_sub8 (a := ((hexc ((digits m).getD k 0)) : UInt8)) (b := (48 : UInt8)) (hT 18 rfl rfl) rfl eR
 exact Ap fun aq wq _ hO hR hT => does_conv ⟨_, Tryd.underlying5⟩ Tryd.underlying3 (hT 19 rfl rfl) (conv_w_i8 _) eR
 exact Ap fun aq wq _ hO hR hT => does_assign (V := i64 (((((hexc ((digits m).getD k 0))) - 48).toNat : Nat) : Int)) (hT 20 rfl rfl) eR
 intro a8 wd8 N8 D8 hO hR hA hU
 obtain ⟨_, _, _, _, _, t7, _⟩ := hA
 have E8 := E7.trans hR
 have s3_8 := oT hO s3_7 rfl
 have s4_8 := oT hO s4_7 rfl
 have s5_8 := oT hO s5_7 rfl
 have s6_8 := oT hO s6_7 rfl
 have B1_8 := B1_7.ext' hR
 have hsxo_8 := hsxo_7.ext' hR
 have hoxo_8 := hoxo_7.ext' hR
 have s7_8 : get a8 7 = i64 (((((hexc ((digits m).getD k 0))) - 48).toNat : Nat) : Int) := t7
 clear E7 N7 D7 s3_7 s4_7 s5_7 s6_7 s13_7 B1_7 hsxo_7 hoxo_7
 refine tail_nil ?_
 refine wp_seq ?_
 refine wp_seq ?_
 refine Rl [] [(21, Pr.ex (str ((digits m).map hexc))), (22, Pr.ex (i64 (k : Int))), (23, Pr.ex (w8 ((hexc ((digits m).getD k 0))))), (24, Pr.ex (Value.bool (decide (((97 : UInt8).toNat : Int) ≤ (((hexc ((digits m).getD k 0)) : UInt8).toNat : Int)))))] 4 N8 D8 ?_ ?_
 refine Ac ?_ (Ac ?_ (Ac ?_ (Ac ?_ (Az _))))
 exact Am s3_8 rfl fun _ => rfl
 exact Am s6_8 rfl fun _ => rfl
 exact Ap fun aq wq _ hO hR hT => does_indexStr (l := (digits m).map hexc) (i := (k : Int)) (c := (hexc ((digits m).getD k 0))) Tryd.underlying9 (hT 21 rfl rfl) (hT 22 rfl rfl) (by omega) (text_get m hk32) eR
 exact Ap fun aq wq _ hO hR hT => does_geq (a := (((hexc ((digits m).getD k 0)) : UInt8).toNat : Int)) (b := ((97 : UInt8).toNat : Int)) (hT 23 rfl rfl) rfl eR
 intro a9 wd9 N9 D9 hO hR hA hU
 obtain ⟨_, _, _, t24, _⟩ := hA
 have E9 := E8.trans hR
 have s3_9 := oT hO s3_8 rfl
 have s4_9 := oT hO s4_8 rfl
 have s5_9 := oT hO s5_8 rfl
 have s6_9 := oT hO s6_8 rfl
 have s7_9 := oT hO s7_8 rfl
 have B1_9 := B1_8.ext' hR
 have hsxo_9 := hsxo_8.ext' hR
 have hoxo_9 := hoxo_8.ext' hR
 have s24_9 : get a9 24 = Value.bool (decide (((97 : UInt8).toNat : Int) ≤ (((hexc ((digits m).getD k 0)) : UInt8).toNat : Int))) := t24
 clear E8 N8 D8 s3_8 s4_8 s5_8 s6_8 s7_8 B1_8 hsxo_8 hoxo_8
 refine tail_nil ?_
 refine wp_if (B := decide (((97 : UInt8).toNat : Int) ≤ (((hexc ((digits m).getD k 0)) : UInt8).toNat : Int))) s24_9 (fun hc1 => ?_) (fun hc1 => ?_)
 have hc1 := of_decide_eq_true hc1
 refine Rl [] [(25, Pr.ex (str ((digits m).map hexc))), (26, Pr.ex (i64 (k : Int))), (27, Pr.ex (w8 ((hexc ((digits m).getD k 0))))), (28, Pr.ex (w8 (((hexc ((digits m).getD k 0))) - 97))), (29, Pr.ex (i64 (((((hexc ((digits m).getD k 0))) - 97).toNat : Nat) : Int))), (30, Pr.ex (i64 ((((((hexc ((digits m).getD k 0))) - 97).toNat) + 10 : Nat) : Int))), (7, Pr.ex (i64 ((((((hexc ((digits m).getD k 0))) - 97).toNat) + 10 : Nat) : Int)))] 7 N9 D9 ?_ ?_
 refine Ac ?_ (Ac ?_ (Ac ?_ (Ac ?_ (Ac ?_ (Ac ?_ (Ac ?_ (Az _)))))))
 exact Am s3_9 rfl fun _ => rfl
 exact Am s6_9 rfl fun _ => rfl
 exact Ap fun aq wq _ hO hR hT => does_indexStr (l := (digits m).map hexc) (i := (k : Int)) (c := (hexc ((digits m).getD k 0))) Tryd.underlying9 (hT 25 rfl rfl) (hT 26 rfl rfl) (by omega) (text_get m hk32) eR
 exact Ap fun aq wq _ hO hR hT => does_sub8 (a := ((hexc ((digits m).getD k 0)) : UInt8)) (b := (97 : UInt8)) (hT 27 rfl rfl) rfl eR
 exact Ap fun aq wq _ hO hR hT => does_conv ⟨_, Tryd.underlying5⟩ Tryd.underlying3 (hT 28 rfl rfl) (conv_w_i8 _) eR
 exact Ap fun aq wq _ hO hR hT => does_add (a := (((((hexc ((digits m).getD k 0))) - 97).toNat : Nat) : Int)) (b := ((10 : Nat) : Int)) (r := ((((((hexc ((digits m).getD k 0))) - 97).toNat) + 10 : Nat) : Int)) (hT 29 rfl rfl) rfl (by omega) (by omega) (by have := UInt8.toNat_lt (hexc ((digits m).getD k 0) - 97); omega) eR
 exact Ap fun aq wq _ hO hR hT => does_assign (V := i64 ((((((hexc ((digits m).getD k 0))) - 97).toNat) + 10 : Nat) : Int)) (hT 30 rfl rfl) eR
 intro a10 wd10 N10 D10 hO hR hA hU
 obtain ⟨_, _, _, _, _, _, t7, _⟩ := hA
 have E10 := E9.trans hR
 have s3_10 := oT hO s3_9 rfl
 have s4_10 := oT hO s4_9 rfl
 have s5_10 := oT hO s5_9 rfl
 have s6_10 := oT hO s6_9 rfl
 have B1_10 := B1_9.ext' hR
 have hsxo_10 := hsxo_9.ext' hR
 have hoxo_10 := hoxo_9.ext' hR
 have s7_10 : get a10 7 = i64 ((((((hexc ((digits m).getD k 0))) - 97).toNat) + 10 : Nat) : Int) := t7
 clear E9 N9 D9 s3_9 s4_9 s5_9 s6_9 s7_9 s24_9 B1_9 hsxo_9 hoxo_9
 refine tail_nil ?_
 refine wp_seq ?_
 rw [show ((((hexc ((digits m).getD k 0))) - 97).toNat) + 10 = (digits m).getD k 0 from hexc_T hdle (by first | exact hc1 | (intro h; exact hc1 h))] at s7_10
 refine Rl [] [(31, Pr.ex (xo)), (32, Pr.ex (i64 (((digits m).getD k 0 : Nat) : Int))), (33, Pr.own' NI wd10.heap.size 3 ([(digits m).getD k 0]))] 3 N10 D10 ?_ ?_
 refine Ac ?_ (Ac ?_ (Ac ?_ (Az _)))
 exact Am s4_10 rfl fun _ => rfl
 exact Am s7_10 rfl fun _ => rfl
 exact Ap fun aq wq _ hO hR hT => does_slice1 (T := NI) (X := (digits m).getD k 0) (V := i64 (((digits m).getD k 0 : Nat) : Int)) app_103 rfl (by decide) (hT 32 rfl rfl) rfl (fun v w2 he _ ho => ⟨he, OwnT.base ho hR.size'⟩)
 intro a11 wd11 N11 D11 hO hR hA hU
 obtain ⟨t31, _, t33, _⟩ := hA
 have E11 := E10.trans hR
 have s3_11 := oT hO s3_10 rfl
 have s4_11 := oT hO s4_10 rfl
 have s5_11 := oT hO s5_10 rfl
 have s6_11 := oT hO s6_10 rfl
 have s7_11 := oT hO s7_10 rfl
 have B1_11 := B1_10.ext' hR
 have hsxo_11 := hsxo_10.ext' hR
 have hoxo_11 := hoxo_10.ext' hR
 have s31_11 : get a11 31 = xo := t31
 obtain ⟨x33, s33_11⟩ : ∃ x, get a11 33 = x := ⟨_, rfl⟩
 replace t33 : OwnT NI wd10.heap.size 3 ([(digits m).getD k 0]) x33 wd11 := by rw [← s33_11]; exact t33
 have nbo_x33_b1 := Ob1 t33 B1_10
 have no_x33_xo := Oo t33 hoxo_10
 have X33_11 := t33.sl.wide (Nat.zero_le _) (.inl rfl)
 have O33_11 := OwnT.base t33 E10.size'
 clear E10 N10 D10 s3_10 s4_10 s5_10 s6_10 s7_10 B1_10 hsxo_10 hoxo_10
 refine tail_put rfl rfl N11 D11 (by decide) (does_append (T := NI) (base := w0.heap.size) (xs := (digits m).take k) (ys := [(digits m).getD k 0]) (v := xo) app_103 s31_11 hoxo_11 (SlT.at s33_11 X33_11) (by simp) (by simp only [List.length_take, List.length_cons, List.length_nil, digits_length]; omega) (by simp only [List.length_take, List.length_cons, List.length_nil, digits_length]; omega) E11.size' (fun x34 wd12 hX O34_12 hk a12 N12 D12 hv hO => ?_))
 have E12 := E11.since hX (fun b hb => Nat.le_trans (Nat.le_refl _) (OwnT.block_lt hoxo_11 hb).1)
 have B1_12 := B1_11.ext hX nbo_xo_b1
 have nbo_x34_b1 : x34.ownBlock ≠ some b1 := fun e => (hk _ e).elim nbo_xo_b1 (fun h => Nat.lt_irrefl _ (Nat.lt_of_lt_of_le B1_11.lt h))
 have O33_12 := OwnT.ext O33_11 hX (fun k hk e => no_x33_xo k hk e)
 have no_x34_x33 : ∀ k, x34.ownBlock = some k → x33.ownBlock ≠ some k := fun k e e' => (hk k e).elim (fun h => no_x33_xo k e' h) (fun h => Nat.lt_irrefl _ (Nat.lt_of_lt_of_le (OwnT.block_lt O33_11 e').2 h))
 have X33_12 := O33_12.sl.wide (Nat.zero_le _) (.inl rfl)
 have X34_12 := O34_12.sl.wide (Nat.zero_le _) (.inl rfl)
 rw [take_digit m hk32] at O34_12 X34_12
 have s34_12 := hv
 have s3_12 := oT hO s3_11 rfl
 have s4_12 := oT hO s4_11 rfl
 have s5_12 := oT hO s5_11 rfl
 have s6_12 := oT hO s6_11 rfl
 have s7_12 := oT hO s7_11 rfl
 clear hO hv hX hk N11 D11 E11 B1_11 O33_11 s3_11 s4_11 s5_11 s6_11 s7_11 s31_11 s33_11
 refine tail_put rfl rfl N12 D12 (by decide) (does_assign (V := x34) s34_12 (fun a13 N13 D13 hv hO => ?_))
 have s4_13 := hv
 have s3_13 := oT hO s3_12 rfl
 have s5_13 := oT hO s5_12 rfl
 have s6_13 := oT hO s6_12 rfl
 have s7_13 := oT hO s7_12 rfl
 clear hO hv N12 D12 s3_12 s5_12 s6_12 s7_12 s34_12 s4_12
 refine tail_nil ?_
 refine Rl [] [(35, Pr.ex (i64 ((lacks ((digits m).take k) : Nat) : Int))), (36, Pr.ex (i64 (((lacks ((digits m).take k)) + 15 : Nat) : Int))), (37, Pr.ex (i64 (((digits m).getD k 0 : Nat) : Int))), (38, Pr.ex (i64 ((((lacks ((digits m).take k)) + 15) - ((digits m).getD k 0) : Nat) : Int)))] 4 N13 D13 ?_ ?_
 refine Ac ?_ (Ac ?_ (Ac ?_ (Ac ?_ (Az _))))
 exact Am s5_13 rfl fun _ => rfl
 exact Ap fun aq wq _ hO hR hT => does_add (a := ((lacks ((digits m).take k) : Nat) : Int)) (b := ((15 : Nat) : Int)) (r := (((lacks ((digits m).take k)) + 15 : Nat) : Int)) (hT 35 rfl rfl) rfl (by omega) (by omega) (by omega) eR
 exact Am s7_13 rfl fun _ => rfl
 exact Ap fun aq wq _ hO hR hT => does_sub (a := (((lacks ((digits m).take k)) + 15 : Nat) : Int)) (b := (((digits m).getD k 0 : Nat) : Int)) (r := ((((lacks ((digits m).take k)) + 15) - ((digits m).getD k 0) : Nat) : Int)) (hT 36 rfl rfl) (hT 37 rfl rfl) (by omega) (by omega) (by omega) eR
 intro a14 wd14 N14 D14 hO hR hA hU
 obtain ⟨_, _, _, t38, _⟩ := hA
 have E14 := E12.trans hR
 have s3_14 := oT hO s3_13 rfl
 have s4_14 := oT hO s4_13 rfl
 have s5_14 := oT hO s5_13 rfl
 have s6_14 := oT hO s6_13 rfl
 have B1_14 := B1_12.ext' hR
 have X33_14 := X33_12.ext' hR
 have X34_14 := X34_12.ext' hR
 have O33_14 := O33_12.ext' hR
 have O34_14 := O34_12.ext' hR
 have s38_14 : get a14 38 = i64 ((((lacks ((digits m).take k)) + 15) - ((digits m).getD k 0) : Nat) : Int) := t38
 clear E12 N13 D13 s3_13 s4_13 s5_13 s6_13 s7_13 B1_12 X33_12 X34_12 O33_12 O34_12
 refine tail_put rfl rfl N14 D14 (by decide) (does_assign (V := i64 ((((lacks ((digits m).take k)) + 15) - ((digits m).getD k 0) : Nat) : Int)) s38_14 (fun a15 N15 D15 hv hO => ?_))
 have s5_15 := hv
 have s3_15 := oT hO s3_14 rfl
 have s4_15 := oT hO s4_14 rfl
 have s6_15 := oT hO s6_14 rfl
 clear hO hv N14 D14 s3_14 s4_14 s6_14 s38_14 s5_14
 refine tail_nil ?_
 refine Rl [] [(14, Pr.ex (i64 (k : Int))), (15, Pr.ex (i64 ((k + 1 : Nat) : Int)))] 2 N15 D15 ?_ ?_
 refine Ac ?_ (Ac ?_ (Az _))
 exact Am s6_15 rfl fun _ => rfl
 exact Ap fun aq wq _ hO hR hT => does_add (a := (k : Int)) (b := ((1 : Nat) : Int)) (r := ((k + 1 : Nat) : Int)) (hT 14 rfl rfl) rfl (by omega) (by omega) (by omega) eR
 intro a16 wd16 N16 D16 hO hR hA hU
 obtain ⟨_, t15, _⟩ := hA
 have E16 := E14.trans hR
 have s3_16 := oT hO s3_15 rfl
 have s4_16 := oT hO s4_15 rfl
 have s5_16 := oT hO s5_15 rfl
 have s6_16 := oT hO s6_15 rfl
 have B1_16 := B1_14.ext' hR
 have X33_16 := X33_14.ext' hR
 have X34_16 := X34_14.ext' hR
 have O33_16 := O33_14.ext' hR
 have O34_16 := O34_14.ext' hR
 have s15_16 : get a16 15 = i64 ((k + 1 : Nat) : Int) := t15
 clear E14 N15 D15 s3_15 s4_15 s5_15 s6_15 B1_14 X33_14 X34_14 O33_14 O34_14
 refine tail_put rfl rfl N16 D16 (by decide) (does_assign (V := i64 ((k + 1 : Nat) : Int)) s15_16 (fun a17 N17 D17 hv hO => ?_))
 have s6_17 := hv
 have s3_17 := oT hO s3_16 rfl
 have s4_17 := oT hO s4_16 rfl
 have s5_17 := oT hO s5_16 rfl
 clear hO hv N16 D16 s3_16 s4_16 s5_16 s15_16 s6_16
 refine tail_nil ?_
 exact ⟨_, by omega, k + 1, x34, rfl, N17, D17, s3_17, s4_17, (by rw [← hls2]; exact s5_17), s6_17, E16, B1_16, O34_16, nbo_x34_b1, by omega⟩
 have hc1 := of_decide_eq_false hc1
 refine wp_skip ?_
 refine wp_seq ?_
 rw [show (((hexc ((digits m).getD k 0))) - 48).toNat = (digits m).getD k 0 from hexc_F hdle (by first | exact hc1 | (intro h; exact hc1 h))] at s7_9
 refine Rl [] [(31, Pr.ex (xo)), (32, Pr.ex (i64 (((digits m).getD k 0 : Nat) : Int))), (33, Pr.own' NI wd9.heap.size 3 ([(digits m).getD k 0]))] 3 N9 D9 ?_ ?_
 refine Ac ?_ (Ac ?_ (Ac ?_ (Az _)))
 exact Am s4_9 rfl fun _ => rfl
 exact Am s7_9 rfl fun _ => rfl
 exact Ap fun aq wq _ hO hR hT => does_slice1 (T := NI) (X := (digits m).getD k 0) (V := i64 (((digits m).getD k 0 : Nat) : Int)) app_103 rfl (by decide) (hT 32 rfl rfl) rfl (fun v w2 he _ ho => ⟨he, OwnT.base ho hR.size'⟩)
 intro a18 wd18 N18 D18 hO hR hA hU
 obtain ⟨t31, _, t33, _⟩ := hA
 have E18 := E9.trans hR
 have s3_18 := oT hO s3_9 rfl
 have s4_18 := oT hO s4_9 rfl
 have s5_18 := oT hO s5_9 rfl
 have s6_18 := oT hO s6_9 rfl
 have s7_18 := oT hO s7_9 rfl
 have B1_18 := B1_9.ext' hR
 have hsxo_18 := hsxo_9.ext' hR
 have hoxo_18 := hoxo_9.ext' hR
 have s31_18 : get a18 31 = xo := t31
 obtain ⟨x33_1, s33_18⟩ : ∃ x, get a18 33 = x := ⟨_, rfl⟩
 replace t33 : OwnT NI wd9.heap.size 3 ([(digits m).getD k 0]) x33_1 wd18 := by rw [← s33_18]; exact t33
 have nbo_x33_1_b1 := Ob1 t33 B1_9
 have no_x33_1_xo := Oo t33 hoxo_9
 have X33_1_18 := t33.sl.wide (Nat.zero_le _) (.inl rfl)
 have O33_1_18 := OwnT.base t33 E9.size'
 clear E9 N9 D9 s3_9 s4_9 s5_9 s6_9 s7_9 s24_9 B1_9 hsxo_9 hoxo_9
 refine tail_put rfl rfl N18 D18 (by decide) (does_append (T := NI) (base := w0.heap.size) (xs := (digits m).take k) (ys := [(digits m).getD k 0]) (v := xo) app_103 s31_18 hoxo_18 (SlT.at s33_18 X33_1_18) (by simp) (by simp only [List.length_take, List.length_cons, List.length_nil, digits_length]; omega) (by simp only [List.length_take, List.length_cons, List.length_nil, digits_length]; omega) E18.size' (fun x34_1 wd19 hX O34_1_19 hk a19 N19 D19 hv hO => ?_))
 have E19 := E18.since hX (fun b hb => Nat.le_trans (Nat.le_refl _) (OwnT.block_lt hoxo_18 hb).1)
 have B1_19 := B1_18.ext hX nbo_xo_b1
 have nbo_x34_1_b1 : x34_1.ownBlock ≠ some b1 := fun e => (hk _ e).elim nbo_xo_b1 (fun h => Nat.lt_irrefl _ (Nat.lt_of_lt_of_le B1_18.lt h))
 have O33_1_19 := OwnT.ext O33_1_18 hX (fun k hk e => no_x33_1_xo k hk e)
 have no_x34_1_x33_1 : ∀ k, x34_1.ownBlock = some k → x33_1.ownBlock ≠ some k := fun k e e' => (hk k e).elim (fun h => no_x33_1_xo k e' h) (fun h => Nat.lt_irrefl _ (Nat.lt_of_lt_of_le (OwnT.block_lt O33_1_18 e').2 h))
 have X33_1_19 := O33_1_19.sl.wide (Nat.zero_le _) (.inl rfl)
 have X34_1_19 := O34_1_19.sl.wide (Nat.zero_le _) (.inl rfl)
 rw [take_digit m hk32] at O34_1_19 X34_1_19
 have s34_19 := hv
 have s3_19 := oT hO s3_18 rfl
 have s4_19 := oT hO s4_18 rfl
 have s5_19 := oT hO s5_18 rfl
 have s6_19 := oT hO s6_18 rfl
 have s7_19 := oT hO s7_18 rfl
 clear hO hv hX hk N18 D18 E18 B1_18 O33_1_18 s3_18 s4_18 s5_18 s6_18 s7_18 s31_18 s33_18
 refine tail_put rfl rfl N19 D19 (by decide) (does_assign (V := x34_1) s34_19 (fun a20 N20 D20 hv hO => ?_))
 have s4_20 := hv
 have s3_20 := oT hO s3_19 rfl
 have s5_20 := oT hO s5_19 rfl
 have s6_20 := oT hO s6_19 rfl
 have s7_20 := oT hO s7_19 rfl
 clear hO hv N19 D19 s3_19 s5_19 s6_19 s7_19 s34_19 s4_19
 refine tail_nil ?_
 refine Rl [] [(35, Pr.ex (i64 ((lacks ((digits m).take k) : Nat) : Int))), (36, Pr.ex (i64 (((lacks ((digits m).take k)) + 15 : Nat) : Int))), (37, Pr.ex (i64 (((digits m).getD k 0 : Nat) : Int))), (38, Pr.ex (i64 ((((lacks ((digits m).take k)) + 15) - ((digits m).getD k 0) : Nat) : Int)))] 4 N20 D20 ?_ ?_
 refine Ac ?_ (Ac ?_ (Ac ?_ (Ac ?_ (Az _))))
 exact Am s5_20 rfl fun _ => rfl
 exact Ap fun aq wq _ hO hR hT => does_add (a := ((lacks ((digits m).take k) : Nat) : Int)) (b := ((15 : Nat) : Int)) (r := (((lacks ((digits m).take k)) + 15 : Nat) : Int)) (hT 35 rfl rfl) rfl (by omega) (by omega) (by omega) eR
 exact Am s7_20 rfl fun _ => rfl
 exact Ap fun aq wq _ hO hR hT => does_sub (a := (((lacks ((digits m).take k)) + 15 : Nat) : Int)) (b := (((digits m).getD k 0 : Nat) : Int)) (r := ((((lacks ((digits m).take k)) + 15) - ((digits m).getD k 0) : Nat) : Int)) (hT 36 rfl rfl) (hT 37 rfl rfl) (by omega) (by omega) (by omega) eR
 intro a21 wd21 N21 D21 hO hR hA hU
 obtain ⟨_, _, _, t38, _⟩ := hA
 have E21 := E19.trans hR
 have s3_21 := oT hO s3_20 rfl
 have s4_21 := oT hO s4_20 rfl
 have s5_21 := oT hO s5_20 rfl
 have s6_21 := oT hO s6_20 rfl
 have B1_21 := B1_19.ext' hR
 have X33_1_21 := X33_1_19.ext' hR
 have X34_1_21 := X34_1_19.ext' hR
 have O33_1_21 := O33_1_19.ext' hR
 have O34_1_21 := O34_1_19.ext' hR
 have s38_21 : get a21 38 = i64 ((((lacks ((digits m).take k)) + 15) - ((digits m).getD k 0) : Nat) : Int) := t38
 clear E19 N20 D20 s3_20 s4_20 s5_20 s6_20 s7_20 B1_19 X33_1_19 X34_1_19 O33_1_19 O34_1_19
 refine tail_put rfl rfl N21 D21 (by decide) (does_assign (V := i64 ((((lacks ((digits m).take k)) + 15) - ((digits m).getD k 0) : Nat) : Int)) s38_21 (fun a22 N22 D22 hv hO => ?_))
 have s5_22 := hv
 have s3_22 := oT hO s3_21 rfl
 have s4_22 := oT hO s4_21 rfl
 have s6_22 := oT hO s6_21 rfl
 clear hO hv N21 D21 s3_21 s4_21 s6_21 s38_21 s5_21
 refine tail_nil ?_
 refine Rl [] [(14, Pr.ex (i64 (k : Int))), (15, Pr.ex (i64 ((k + 1 : Nat) : Int)))] 2 N22 D22 ?_ ?_
 refine Ac ?_ (Ac ?_ (Az _))
 exact Am s6_22 rfl fun _ => rfl
 exact Ap fun aq wq _ hO hR hT => does_add (a := (k : Int)) (b := ((1 : Nat) : Int)) (r := ((k + 1 : Nat) : Int)) (hT 14 rfl rfl) rfl (by omega) (by omega) (by omega) eR
 intro a23 wd23 N23 D23 hO hR hA hU
 obtain ⟨_, t15, _⟩ := hA
 have E23 := E21.trans hR
 have s3_23 := oT hO s3_22 rfl
 have s4_23 := oT hO s4_22 rfl
 have s5_23 := oT hO s5_22 rfl
 have s6_23 := oT hO s6_22 rfl
 have B1_23 := B1_21.ext' hR
 have X33_1_23 := X33_1_21.ext' hR
 have X34_1_23 := X34_1_21.ext' hR
 have O33_1_23 := O33_1_21.ext' hR
 have O34_1_23 := O34_1_21.ext' hR
 have s15_23 : get a23 15 = i64 ((k + 1 : Nat) : Int) := t15
 clear E21 N22 D22 s3_22 s4_22 s5_22 s6_22 B1_21 X33_1_21 X34_1_21 O33_1_21 O34_1_21
 refine tail_put rfl rfl N23 D23 (by decide) (does_assign (V := i64 ((k + 1 : Nat) : Int)) s15_23 (fun a24 N24 D24 hv hO => ?_))
 have s6_24 := hv
 have s3_24 := oT hO s3_23 rfl
 have s4_24 := oT hO s4_23 rfl
 have s5_24 := oT hO s5_23 rfl
 clear hO hv N23 D23 s3_23 s4_23 s5_23 s15_23 s6_23
 refine tail_nil ?_
 exact ⟨_, by omega, k + 1, x34_1, rfl, N24, D24, s3_24, s4_24, (by rw [← hls2]; exact s5_24), s6_24, E23, B1_23, O34_1_23, nbo_x34_1_b1, by omega⟩
 have hc0 := of_decide_eq_false hc0
 have hdt := digits_all m (n := k) (by have := digits_length m; simp only [List.length_map] at hc0; omega)
 have hda : lacks ((digits m).take k) = lacks (digits m) := by rw [hdt]
 have hlt := lacks_small m k
 refine wp_exit ?_
 refine wp_seq ?_
 refine Rl [] [(39, Pr.ex (xo)), (40, Pr.ex (i64 ((lacks ((digits m).take k) : Nat) : Int))), (41, Pr.ex (i64 ((lacks ((digits m).take k) / 256 : Nat) : Int))), (42, Pr.ex (i64 ((lacks ((digits m).take k) : Nat) : Int))), (43, Pr.ex (i64 ((lacks ((digits m).take k) / 16 : Nat) : Int))), (44, Pr.ex (i64 ((lacks ((digits m).take k) / 16 % 16 : Nat) : Int))), (45, Pr.ex (i64 ((lacks ((digits m).take k) : Nat) : Int))), (46, Pr.ex (i64 ((lacks ((digits m).take k) % 16 : Nat) : Int))), (47, Pr.own' NI wd7.heap.size 3 ([lacks ((digits m).take k) / 256, lacks ((digits m).take k) / 16 % 16, lacks ((digits m).take k) % 16]))] 9 N7 D7 ?_ ?_
 refine Ac ?_ (Ac ?_ (Ac ?_ (Ac ?_ (Ac ?_ (Ac ?_ (Ac ?_ (Ac ?_ (Ac ?_ (Az _)))))))))
 exact Am s4_7 rfl fun _ => rfl
 exact Am s5_7 rfl fun _ => rfl
 exact Ap fun aq wq _ hO hR hT => does_quo (a := ((lacks ((digits m).take k) : Nat) : Int)) (b := ((256 : Nat) : Int)) (r := ((lacks ((digits m).take k) / 256 : Nat) : Int)) (hT 40 rfl rfl) rfl (by omega) (by omega) (by omega) (by omega) eR
 exact Am s5_7 rfl fun _ => rfl
 exact Ap fun aq wq _ hO hR hT => does_quo (a := ((lacks ((digits m).take k) : Nat) : Int)) (b := ((16 : Nat) : Int)) (r := ((lacks ((digits m).take k) / 16 : Nat) : Int)) (hT 42 rfl rfl) rfl (by omega) (by omega) (by omega) (by omega) eR
 exact Ap fun aq wq _ hO hR hT => does_rem (k := .i64) (a := ((lacks ((digits m).take k) / 16 : Nat) : Int)) (b := ((16 : Nat) : Int)) (r := ((lacks ((digits m).take k) / 16 % 16 : Nat) : Int)) (hT 43 rfl rfl) rfl (by omega) (by omega) (by omega) eR
 exact Am s5_7 rfl fun _ => rfl
 exact Ap fun aq wq _ hO hR hT => does_rem (k := .i64) (a := ((lacks ((digits m).take k) : Nat) : Int)) (b := ((16 : Nat) : Int)) (r := ((lacks ((digits m).take k) % 16 : Nat) : Int)) (hT 45 rfl rfl) rfl (by omega) (by omega) (by omega) eR
 exact Ap fun aq wq _ hO hR hT => does_sliceN (T := NI) (xs := [lacks ((digits m).take k) / 256, lacks ((digits m).take k) / 16 % 16, lacks ((digits m).take k) % 16]) (vs := [i64 ((lacks ((digits m).take k) / 256 : Nat) : Int), i64 ((lacks ((digits m).take k) / 16 % 16 : Nat) : Int), i64 ((lacks ((digits m).take k) % 16 : Nat) : Int)]) app_103 rfl (parts3 (hT 41 rfl rfl) (hT 44 rfl rfl) (hT 46 rfl rfl)) rfl (by decide) (by decide) rfl (fun v w2 he _ ho => ⟨he, OwnT.base ho hR.size'⟩)
 intro a25 wd25 N25 D25 hO hR hA hU
 obtain ⟨t39, _, _, _, _, _, _, _, t47, _⟩ := hA
 have E25 := E7.trans hR
 have B1_25 := B1_7.ext' hR
 have hsxo_25 := hsxo_7.ext' hR
 have hoxo_25 := hoxo_7.ext' hR
 have s39_25 : get a25 39 = xo := t39
 obtain ⟨x47, s47_25⟩ : ∃ x, get a25 47 = x := ⟨_, rfl⟩
 replace t47 : OwnT NI wd7.heap.size 3 ([lacks ((digits m).take k) / 256, lacks ((digits m).take k) / 16 % 16, lacks ((digits m).take k) % 16]) x47 wd25 := by rw [← s47_25]; exact t47
 have nbo_x47_b1 := Ob1 t47 B1_7
 have no_x47_xo := Oo t47 hoxo_7
 have X47_25 := t47.sl.wide (Nat.zero_le _) (.inl rfl)
 have O47_25 := OwnT.base t47 E7.size'
 clear E7 N7 D7 s3_7 s4_7 s5_7 s6_7 s13_7 B1_7 hsxo_7 hoxo_7
 refine tail_put rfl rfl N25 D25 (by decide) (does_append (T := NI) (base := w0.heap.size) (xs := (digits m).take k) (ys := [lacks ((digits m).take k) / 256, lacks ((digits m).take k) / 16 % 16, lacks ((digits m).take k) % 16]) (v := xo) app_103 s39_25 hoxo_25 (SlT.at s47_25 X47_25) (by simp) (by simp only [List.length_take, List.length_cons, List.length_nil, digits_length]; omega) (by simp only [List.length_take, List.length_cons, List.length_nil, digits_length]; omega) E25.size' (fun x48 wd26 hX O48_26 hk a26 N26 D26 hv hO => ?_))
 have E26 := E25.since hX (fun b hb => Nat.le_trans (Nat.le_refl _) (OwnT.block_lt hoxo_25 hb).1)
 have B1_26 := B1_25.ext hX nbo_xo_b1
 have nbo_x48_b1 : x48.ownBlock ≠ some b1 := fun e => (hk _ e).elim nbo_xo_b1 (fun h => Nat.lt_irrefl _ (Nat.lt_of_lt_of_le B1_25.lt h))
 have O47_26 := OwnT.ext O47_25 hX (fun k hk e => no_x47_xo k hk e)
 have no_x48_x47 : ∀ k, x48.ownBlock = some k → x47.ownBlock ≠ some k := fun k e e' => (hk k e).elim (fun h => no_x47_xo k e' h) (fun h => Nat.lt_irrefl _ (Nat.lt_of_lt_of_le (OwnT.block_lt O47_25 e').2 h))
 have X47_26 := O47_26.sl.wide (Nat.zero_le _) (.inl rfl)
 have X48_26 := O48_26.sl.wide (Nat.zero_le _) (.inl rfl)
 rw [(show (digits m).take k ++ [lacks ((digits m).take k) / 256, lacks ((digits m).take k) / 16 % 16, lacks ((digits m).take k) % 16] = steps m from by rw [hdt, lacks_div]; rfl)] at O48_26 X48_26
 have s48_26 := hv
 clear hO hv hX hk N25 D25 E25 B1_25 O47_25 s39_25 s47_25
 refine tail_put rfl rfl N26 D26 (by decide) (does_assign (V := x48) s48_26 (fun a27 N27 D27 hv hO => ?_))
 have s2_27 := hv
 clear hO hv N26 D26 s48_26
 refine tail_nil ?_
 refine wp_ret ?_
 refine res_one (V := x48) rfl D27 s2_27 ?_
 exact ⟨O48_26, E26⟩

end Go.Proofs.YtmmghpbncejfiaaDoor
