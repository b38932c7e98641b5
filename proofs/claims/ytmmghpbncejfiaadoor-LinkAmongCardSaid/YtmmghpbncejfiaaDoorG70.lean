/- The walks of functions of the program: printed. -/
import Derived.Test.YtmmghpbncejfiaaDoorK
import Derived.Test.YtmmghpbncejfiaaDoorG20
import Derived.Test.YtmmghpbncejfiaaDoorG51
import Derived.Test.YtmmghpbncejfiaaDoorG62
import Derived.Test.YtmmghpbncejfiaaDoorF0
set_option maxRecDepth 100000
namespace Go.Proofs.YtmmghpbncejfiaaDoor
open Go Go.RowKit Sk Sd
theorem keyCheck_ (pub msg : Dg) (i : Int) (one path : List Dg) (x1 x2 : Value) (w0 : World) (hL : Laid w0) (hx1 : SlT DG 0 0 one x1 w0) (hx2 : SlT DG 0 0 path x2 w0) (hn : one.length ≤ 100000) (hpn : path.length ≤ 100000) :
    Gives Tryd.prog 26 #[Dg.val (pub), Dg.val (msg), Value.agg #[i64 (i), x1, x2]] w0 (Pr.ex (Value.bool (keyCheck pub msg i one path))) := by
 refine enter (N := 35) Tryd.func26 rfl rfl ?_
 intro a0 N0 D0 hA
 have s0_0 : get a0 0 = Dg.val (pub) := hA 0 _ rfl
 have s1_0 : get a0 1 = Dg.val (msg) := hA 1 _ rfl
 have s2_0 : get a0 2 = Value.agg #[i64 (i), x1, x2] := hA 2 _ rfl
 clear hA
 have E0 : Ext w0 w0 := Ext.refl w0
 have X1_0 := hx1.close
 have X2_0 := hx2.close
 refine wp_seq ?_
 refine Rl [3, 4, 5] [(3, Pr.box' w0.heap.size 24 [w32 (pub).a, w32 (pub).b, w32 (pub).c, w32 (pub).d]), (4, Pr.box' w0.heap.size 24 [w32 (msg).a, w32 (msg).b, w32 (msg).c, w32 (msg).d]), (5, Pr.box' w0.heap.size 30 [i64 (i), x1, x2]), (6, Pr.ex (Value.bool (false)))] 4 N0 D0 ?_ ?_
 refine Ac ?_ (Ac ?_ (Ac ?_ (Ac ?_ (Az _))))
 refine Ask.fresh rfl rfl ?_
 intro aq wq hNq hO hR hT
 exact does_box (V := Dg.val (pub)) (oT hO s0_0 rfl) (fun b w2 he hlo hb => ⟨he, ⟨b, rfl, Nat.le_trans hR.size' hlo, hb⟩, ⟨b, rfl, hlo, hb.lt⟩⟩)
 refine Ask.fresh rfl rfl ?_
 intro aq wq hNq hO hR hT
 exact does_box (V := Dg.val (msg)) (oT hO s1_0 rfl) (fun b w2 he hlo hb => ⟨he, ⟨b, rfl, Nat.le_trans hR.size' hlo, hb⟩, ⟨b, rfl, hlo, hb.lt⟩⟩)
 refine Ask.fresh rfl rfl ?_
 intro aq wq hNq hO hR hT
 exact does_box (V := Value.agg #[i64 (i), x1, x2]) (oT hO s2_0 rfl) (fun b w2 he hlo hb => ⟨he, ⟨b, rfl, Nat.le_trans hR.size' hlo, hb⟩, ⟨b, rfl, hlo, hb.lt⟩⟩)
 exact Ap fun aq wq _ hO hR hT => does_assign (V := Value.bool (false)) rfl eR
 intro a1 wd1 N1 D1 hO hR hA hU
 obtain ⟨t3, t4, t5, _, _⟩ := hA
 have E1 := E0.trans hR
 have X1_1 := X1_0.ext' hR
 have X2_1 := X2_0.ext' hR
 obtain ⟨b3, s3_1, lo_b3, B3_1⟩ := t3
 have nb_x1_b3 := SlT.old X1_0 lo_b3
 have nb_x2_b3 := SlT.old X2_0 lo_b3
 have fr_b3 : w0.heap.size ≤ b3 := Nat.le_trans E0.size' lo_b3
 obtain ⟨b4, s4_1, lo_b4, B4_1⟩ := t4
 have nb_x1_b4 := SlT.old X1_0 lo_b4
 have nb_x2_b4 := SlT.old X2_0 lo_b4
 have fr_b4 : w0.heap.size ≤ b4 := Nat.le_trans E0.size' lo_b4
 obtain ⟨b5, s5_1, lo_b5, B5_1⟩ := t5
 have nb_x1_b5 := SlT.old X1_0 lo_b5
 have nb_x2_b5 := SlT.old X2_0 lo_b5
 have fr_b5 : w0.heap.size ≤ b5 := Nat.le_trans E0.size' lo_b5
 obtain ⟨u0, ⟨u1, ⟨u2, _⟩⟩⟩ := hU
 have ne_b3_b4 : b3 ≠ b4 := fun e => u0 4 (by decide) (by rw [s3_1, s4_1, e])
 have ne_b3_b5 : b3 ≠ b5 := fun e => u0 5 (by decide) (by rw [s3_1, s5_1, e])
 have ne_b4_b5 : b4 ≠ b5 := fun e => u1 5 (by decide) (by rw [s4_1, s5_1, e])
 clear E0 N0 D0 s0_0 s1_0 s2_0 X1_0 X2_0
 refine tail_nil ?_
 refine wp_seq ?_
 refine wp_seq ?_
 refine Rl [] [(9, Pr.ex (Value.pointer (some ⟨b5, 2, none⟩))), (10, Pr.ex (x2)), (11, Pr.ex (i64 (path.length : Int))), (12, Pr.ex (Value.bool (decide (((4 : Nat) : Int) < (path.length : Int)))))] 4 N1 D1 ?_ ?_
 refine Ac ?_ (Ac ?_ (Ac ?_ (Ac ?_ (Az _))))
 exact Ap fun aq wq _ hO hR hT => does_field (o' := 2) fld_30_2 (oT hO s5_1 rfl) rfl eR
 exact Ap fun aq wq _ hO hR hT => does_loadD1 (o := 2) (V := x2) (hT 9 rfl rfl) (B5_1.ext' hR) rfl one_27 eR
 exact Ap fun aq wq _ hO hR hT => does_len (T := DG) (xs := path) sli_27 (SlT.at (hT 10 rfl rfl) (X2_1.ext' hR)) eR
 exact Ap fun aq wq _ hO hR hT => does_gtr (a := (path.length : Int)) (b := ((4 : Nat) : Int)) (hT 11 rfl rfl) rfl eR
 intro a2 wd2 N2 D2 hO hR hA hU
 obtain ⟨_, _, _, t12, _⟩ := hA
 have E2 := E1.trans hR
 have s3_2 := oT hO s3_1 rfl
 have s4_2 := oT hO s4_1 rfl
 have s5_2 := oT hO s5_1 rfl
 have B3_2 := B3_1.ext' hR
 have B4_2 := B4_1.ext' hR
 have B5_2 := B5_1.ext' hR
 have X1_2 := X1_1.ext' hR
 have X2_2 := X2_1.ext' hR
 have s12_2 : get a2 12 = Value.bool (decide (((4 : Nat) : Int) < (path.length : Int))) := t12
 clear E1 N1 D1 s3_1 s4_1 s5_1 B3_1 B4_1 B5_1 X1_1 X2_1
 refine tail_nil ?_
 refine wp_if (B := decide (((4 : Nat) : Int) < (path.length : Int))) s12_2 (fun hc0 => ?_) (fun hc0 => ?_)
 have hc0 := of_decide_eq_true hc0
 refine wp_seq ?_
 refine Rl [] [(6, Pr.ex (Value.bool (false)))] 1 N2 D2 ?_ ?_
 refine Ac ?_ (Az _)
 exact Ap fun aq wq _ hO hR hT => does_assign (V := Value.bool (false)) rfl eR
 intro a3 wd3 N3 D3 hO hR hA hU
 obtain ⟨t6, _⟩ := hA
 have E3 := E2.trans hR
 have B3_3 := B3_2.ext' hR
 have B4_3 := B4_2.ext' hR
 have B5_3 := B5_2.ext' hR
 have X1_3 := X1_2.ext' hR
 have X2_3 := X2_2.ext' hR
 have s6_3 : get a3 6 = Value.bool (false) := t6
 clear E2 N2 D2 s3_2 s4_2 s5_2 s12_2 B3_2 B4_2 B5_2 X1_2 X2_2
 refine tail_nil ?_
 refine wp_ret ?_
 refine res_one (V := Value.bool (false)) rfl D3 s6_3 ?_
 exact ⟨by show Value.bool _ = Value.bool _; rw [keyCheck_no (by omega)], E3⟩
 have hc0 := of_decide_eq_false hc0
 have hp4 : path.length ≤ 4 := by omega
 refine wp_skip ?_
 refine wp_seq ?_
 refine Rl [7] [(14, Pr.ex (Dg.val (msg))), (15, Pr.ex (Value.pointer (some ⟨b5, 1, none⟩))), (16, Pr.ex (x1)), (17, Pr.ex (Value.tuple #[Dg.val ((reachO msg one).1), Value.bool ((reachO msg one).2)])), (13, Pr.ex (Value.tuple #[Dg.val ((reachO msg one).1), Value.bool ((reachO msg one).2)])), (18, Pr.ex (Dg.val ((reachO msg one).1))), (19, Pr.ex (Value.bool ((reachO msg one).2))), (7, Pr.box' wd2.heap.size 24 [w32 (Dg.zero).a, w32 (Dg.zero).b, w32 (Dg.zero).c, w32 (Dg.zero).d])] 8 N2 D2 ?_ ?_
 refine Ac ?_ (Ac ?_ (Ac ?_ (Ac ?_ (Ac ?_ (Ac ?_ (Ac ?_ (Ac ?_ (Az _))))))))
 exact Ap fun aq wq _ hO hR hT => does_loadD (o := 0) (n := 4) (mid := [w32 (msg).a, w32 (msg).b, w32 (msg).c, w32 (msg).d]) (oT hO s4_2 rfl) (B4_2.ext' hR) rfl rfl (nB rfl) row_24 rfl eR
 exact Ap fun aq wq _ hO hR hT => does_field (o' := 1) fld_30_1 (oT hO s5_2 rfl) rfl eR
 exact Ap fun aq wq _ hO hR hT => does_loadD1 (o := 1) (V := x1) (hT 15 rfl rfl) (B5_2.ext' hR) rfl one_28 eR
 exact Ap fun aq wq _ hO hR hT => does_ret (vs := #[Dg.val (msg), x1]) call_40 (args2 (hT 14 rfl rfl) (hT 16 rfl rfl)) rfl ((reach_ msg one (x1) wq (hL.ext (E2.trans hR)) ((X1_2.ext' hR).wide (Nat.zero_le _) (.inl rfl)) hn).mono fun v w2 h => ⟨h.2, h.1⟩)
 exact Ap fun aq wq _ hO hR hT => does_move (V := Value.tuple #[Dg.val ((reachO msg one).1), Value.bool ((reachO msg one).2)]) (hT 17 rfl rfl) eR
 exact Ap fun aq wq _ hO hR hT => does_extract (V := Dg.val ((reachO msg one).1)) (hT 13 rfl rfl) rfl eR
 exact Ap fun aq wq _ hO hR hT => does_extract (V := Value.bool ((reachO msg one).2)) (hT 13 rfl rfl) rfl eR
 refine Ask.fresh rfl rfl ?_
 intro aq wq hNq hO hR hT
 exact does_alloc zero_24 (fun b w2 he hlo hb => ⟨he, ⟨b, rfl, Nat.le_trans hR.size' hlo, hb⟩, ⟨b, rfl, hlo, hb.lt⟩⟩)
 intro a4 wd4 N4 D4 hO hR hA hU
 obtain ⟨_, _, _, _, _, t18, t19, t7, _⟩ := hA
 have E4 := E2.trans hR
 have s3_4 := oT hO s3_2 rfl
 have s5_4 := oT hO s5_2 rfl
 have B3_4 := B3_2.ext' hR
 have B4_4 := B4_2.ext' hR
 have B5_4 := B5_2.ext' hR
 have X1_4 := X1_2.ext' hR
 have X2_4 := X2_2.ext' hR
 have s18_4 : get a4 18 = Dg.val ((reachO msg one).1) := t18
 have s19_4 : get a4 19 = Value.bool ((reachO msg one).2) := t19
 obtain ⟨b7, s7_4, lo_b7, B7_4⟩ := t7
 have ne_b3_b7 := Hl B3_2 lo_b7
 have ne_b4_b7 := Hl B4_2 lo_b7
 have ne_b5_b7 := Hl B5_2 lo_b7
 have nb_x1_b7 := SlT.old X1_2 lo_b7
 have nb_x2_b7 := SlT.old X2_2 lo_b7
 have fr_b7 : w0.heap.size ≤ b7 := Nat.le_trans E2.size' lo_b7
 clear E2 N2 D2 s3_2 s4_2 s5_2 s12_2 B3_2 B4_2 B5_2 X1_2 X2_2
 refine tail_none rfl rfl (does_storeD (o := 0) (n := 4) (cs' := [w32 ((reachO msg one).1).a, w32 ((reachO msg one).1).b, w32 ((reachO msg one).1).c, w32 ((reachO msg one).1).d]) (V := Dg.val ((reachO msg one).1)) s7_4 s18_4 B7_4 (nB rfl) rfl siz_24 rfl rfl (fun wd5 hX hz B7_5 => ?_))
 have E5 := E4.since hX (fun k e => e ▸ fr_b7)
 have B3_5 := B3_4.ext hX ne_b3_b7
 have B4_5 := B4_4.ext hX ne_b4_b7
 have B5_5 := B5_4.ext hX ne_b5_b7
 have X1_5 := SlT.over X1_4 hX nb_x1_b7
 have X2_5 := SlT.over X2_4 hX nb_x2_b7
 clear hX hz E4 B3_4 B4_4 B5_4 B7_4 X1_4 X2_4
 refine tail_put rfl rfl N4 D4 (by decide) (does_assign (V := Value.bool ((reachO msg one).2)) s19_4 (fun a6 N6 D6 hv hO => ?_))
 have s8_6 := hv
 have s3_6 := oT hO s3_4 rfl
 have s5_6 := oT hO s5_4 rfl
 have s7_6 := oT hO s7_4 rfl
 clear hO hv N4 D4 s3_4 s5_4 s7_4 s18_4 s19_4
 refine tail_nil ?_
 refine wp_seq ?_
 refine Ra [] [(20, Pr.ex (Value.bool ((reachO msg one).2))), (21, Pr.ex (Value.bool ((reachO msg one).2))), (22, Pr.ifb ((reachO msg one).2) (Pr.ex (Dg.val (pub)))), (23, Pr.ifb ((reachO msg one).2) (Pr.ex (Value.pointer (some ⟨b5, 2, none⟩)))), (24, Pr.ifb ((reachO msg one).2) (Pr.ex (x2))), (25, Pr.ifb ((reachO msg one).2) (Pr.ex (i64 (path.length : Int)))), (26, Pr.ifb ((reachO msg one).2) (Pr.ex (i64 ((pw path.length : Nat) : Int)))), (27, Pr.ifb ((reachO msg one).2) (Pr.ex (Value.pointer (some ⟨b5, 0, none⟩)))), (28, Pr.ifb ((reachO msg one).2) (Pr.ex (i64 (i)))), (29, Pr.ifb ((reachO msg one).2) (Pr.ex (Dg.val ((reachO msg one).1)))), (30, Pr.ifb ((reachO msg one).2) (Pr.ex (Value.pointer (some ⟨b5, 2, none⟩)))), (31, Pr.ifb ((reachO msg one).2) (Pr.ex (x2))), (32, Pr.ifb ((reachO msg one).2) (Pr.own' DG wd5.heap.size 24 (path))), (33, Pr.ifb ((reachO msg one).2) (Pr.ex (Value.bool (checks pub (((pw path.length : Nat) : Int)) (i) ((reachO msg one).1) path)))), (34, Pr.ex (Value.bool (((reachO msg one).2) && (checks pub (((pw path.length : Nat) : Int)) (i) ((reachO msg one).1) path)))), (6, Pr.ex (Value.bool (((reachO msg one).2) && (checks pub (((pw path.length : Nat) : Int)) (i) ((reachO msg one).1) path))))] 16 mixed N6 D6 ?_ ?_
 refine Ac ?_ (Ac ?_ (Ac ?_ (Ac ?_ (Ac ?_ (Ac ?_ (Ac ?_ (Ac ?_ (Ac ?_ (Ac ?_ (Ac ?_ (Ac ?_ (Ac ?_ (Ac ?_ (Ac ?_ (Ac ?_ (Az _))))))))))))))))
 exact Am s8_6 rfl fun _ => rfl
 exact Ad fun aq wq _ hO hR hT => does_move (V := Value.bool ((reachO msg one).2)) (hT 20 rfl rfl) eR
 refine Ask.guarded (B := (reachO msg one).2) (want := true) (t := 21) rfl rfl rfl rfl (by decide) (fun aq wq hO hR hT => hT 21 rfl rfl) (fun hG aq wq hNq hO hR hT => ?_) (fun hno _ => fun hc => absurd hc hno)
 replace hR := (Ext.drew _).trans hR
 exact does_loadD (o := 0) (n := 4) (mid := [w32 (pub).a, w32 (pub).b, w32 (pub).c, w32 (pub).d]) (oT hO s3_6 rfl) (B3_5.ext' hR) rfl rfl (nB rfl) row_24 rfl ⟨Ext.refl _, fun _ => rfl⟩
 refine Ask.guarded (B := (reachO msg one).2) (want := true) (t := 21) rfl rfl rfl rfl (by decide) (fun aq wq hO hR hT => hT 21 rfl rfl) (fun hG aq wq hNq hO hR hT => ?_) (fun hno _ => fun hc => absurd hc hno)
 replace hR := (Ext.drew _).trans hR
 exact does_field (o' := 2) fld_30_2 (oT hO s5_6 rfl) rfl ⟨Ext.refl _, fun _ => rfl⟩
 refine Ask.guarded (B := (reachO msg one).2) (want := true) (t := 21) rfl rfl rfl rfl (by decide) (fun aq wq hO hR hT => hT 21 rfl rfl) (fun hG aq wq hNq hO hR hT => ?_) (fun hno _ => fun hc => absurd hc hno)
 replace hR := (Ext.drew _).trans hR
 exact does_loadD1 (o := 2) (V := x2) (hT 23 rfl rfl hG) (B5_5.ext' hR) rfl one_27 ⟨Ext.refl _, fun _ => rfl⟩
 refine Ask.guarded (B := (reachO msg one).2) (want := true) (t := 21) rfl rfl rfl rfl (by decide) (fun aq wq hO hR hT => hT 21 rfl rfl) (fun hG aq wq hNq hO hR hT => ?_) (fun hno _ => fun hc => absurd hc hno)
 replace hR := (Ext.drew _).trans hR
 exact does_len (T := DG) (xs := path) sli_27 (SlT.at (hT 24 rfl rfl hG) (X2_5.ext' hR)) ⟨Ext.refl _, fun _ => rfl⟩
 refine Ask.guarded (B := (reachO msg one).2) (want := true) (t := 21) rfl rfl rfl rfl (by decide) (fun aq wq hO hR hT => hT 21 rfl rfl) (fun hG aq wq hNq hO hR hT => ?_) (fun hno _ => fun hc => absurd hc hno)
 replace hR := (Ext.drew _).trans hR
 exact does_shl (k := .i64) (k' := .i64) (a := 1) (b := (path.length : Int)) (r := ((pw path.length : Nat) : Int)) rfl (hT 25 rfl rfl hG) (by omega) (by simp only [IntKind.bits]; omega) (shl_one hp4) ⟨Ext.refl _, fun _ => rfl⟩
 refine Ask.guarded (B := (reachO msg one).2) (want := true) (t := 21) rfl rfl rfl rfl (by decide) (fun aq wq hO hR hT => hT 21 rfl rfl) (fun hG aq wq hNq hO hR hT => ?_) (fun hno _ => fun hc => absurd hc hno)
 replace hR := (Ext.drew _).trans hR
 exact does_field (o' := 0) fld_30_0 (oT hO s5_6 rfl) rfl ⟨Ext.refl _, fun _ => rfl⟩
 refine Ask.guarded (B := (reachO msg one).2) (want := true) (t := 21) rfl rfl rfl rfl (by decide) (fun aq wq hO hR hT => hT 21 rfl rfl) (fun hG aq wq hNq hO hR hT => ?_) (fun hno _ => fun hc => absurd hc hno)
 replace hR := (Ext.drew _).trans hR
 exact does_loadD1 (o := 0) (V := i64 (i)) (hT 27 rfl rfl hG) (B5_5.ext' hR) rfl one_3 ⟨Ext.refl _, fun _ => rfl⟩
 refine Ask.guarded (B := (reachO msg one).2) (want := true) (t := 21) rfl rfl rfl rfl (by decide) (fun aq wq hO hR hT => hT 21 rfl rfl) (fun hG aq wq hNq hO hR hT => ?_) (fun hno _ => fun hc => absurd hc hno)
 replace hR := (Ext.drew _).trans hR
 exact does_loadD (o := 0) (n := 4) (mid := [w32 ((reachO msg one).1).a, w32 ((reachO msg one).1).b, w32 ((reachO msg one).1).c, w32 ((reachO msg one).1).d]) (oT hO s7_6 rfl) (B7_5.ext' hR) rfl rfl (nB rfl) row_24 rfl ⟨Ext.refl _, fun _ => rfl⟩
 refine Ask.guarded (B := (reachO msg one).2) (want := true) (t := 21) rfl rfl rfl rfl (by decide) (fun aq wq hO hR hT => hT 21 rfl rfl) (fun hG aq wq hNq hO hR hT => ?_) (fun hno _ => fun hc => absurd hc hno)
 replace hR := (Ext.drew _).trans hR
 exact does_field (o' := 2) fld_30_2 (oT hO s5_6 rfl) rfl ⟨Ext.refl _, fun _ => rfl⟩
 refine Ask.guarded (B := (reachO msg one).2) (want := true) (t := 21) rfl rfl rfl rfl (by decide) (fun aq wq hO hR hT => hT 21 rfl rfl) (fun hG aq wq hNq hO hR hT => ?_) (fun hno _ => fun hc => absurd hc hno)
 replace hR := (Ext.drew _).trans hR
 exact does_loadD1 (o := 2) (V := x2) (hT 30 rfl rfl hG) (B5_5.ext' hR) rfl one_27 ⟨Ext.refl _, fun _ => rfl⟩
 refine Ask.guarded (B := (reachO msg one).2) (want := true) (t := 21) rfl rfl rfl rfl (by decide) (fun aq wq hO hR hT => hT 21 rfl rfl) (fun hG aq wq hNq hO hR hT => ?_) (fun hno _ => fun hc => absurd hc hno)
 replace hR := (Ext.drew _).trans hR
 exact does_ret (vs := #[x2]) call_42 (args1 (hT 31 rfl rfl hG)) rfl ((clone_ (path) (x2) wq ((X2_5.ext' hR).wide (Nat.zero_le _) (.inl rfl)) hpn).mono fun v w2 h => ⟨h.2, fun _ => OwnT.base h.1 hR.size'⟩)
 refine Ask.guarded (B := (reachO msg one).2) (want := true) (t := 21) rfl rfl rfl rfl (by decide) (fun aq wq hO hR hT => hT 21 rfl rfl) (fun hG aq wq hNq hO hR hT => ?_) (fun hno _ => fun hc => absurd hc hno)
 replace hR := (Ext.drew _).trans hR
 exact does_ret (vs := #[Dg.val (pub), i64 ((pw path.length : Nat) : Int), i64 (i), Dg.val ((reachO msg one).1), get aq 32]) call_41 (args5 (hT 22 rfl rfl hG) (hT 26 rfl rfl hG) (hT 28 rfl rfl hG) (hT 29 rfl rfl hG) rfl) rfl ((check_ (pub) (((pw path.length : Nat) : Int)) (i) ((reachO msg one).1) (path) (get aq 32) wq (hL.ext (E5.trans hR)) (((OwnT.sl (hT 32 rfl rfl hG)).wide (Nat.zero_le _) (.inl rfl)).wide (Nat.zero_le _) (.inl rfl)) hpn).mono fun v w2 h => ⟨h.2, fun _ => h.1⟩)
 exact Ad fun aq wq _ hO hR hT => does_and (B := (reachO msg one).2) (X := checks pub (((pw path.length : Nat) : Int)) (i) ((reachO msg one).1) path) (hT 21 rfl rfl) (fun hB => (hT 33 rfl rfl hB)) rfl eR
 exact Ad fun aq wq _ hO hR hT => does_assign (V := Value.bool (((reachO msg one).2) && (checks pub (((pw path.length : Nat) : Int)) (i) ((reachO msg one).1) path))) (hT 34 rfl rfl) eR
 intro a7 wd7 N7 D7 hO hR hA hU
 obtain ⟨_, _, _, _, _, _, _, _, _, _, _, _, _, _, _, t6, _⟩ := hA
 have E7 := E5.trans hR
 have B3_7 := B3_5.ext' hR
 have B4_7 := B4_5.ext' hR
 have B5_7 := B5_5.ext' hR
 have B7_7 := B7_5.ext' hR
 have X1_7 := X1_5.ext' hR
 have X2_7 := X2_5.ext' hR
 have s6_7 : get a7 6 = Value.bool (((reachO msg one).2) && (checks pub (((pw path.length : Nat) : Int)) (i) ((reachO msg one).1) path)) := t6
 clear E5 N6 D6 s3_6 s5_6 s7_6 s8_6 B3_5 B4_5 B5_5 B7_5 X1_5 X2_5
 refine tail_nil ?_
 refine wp_ret ?_
 refine res_one (V := Value.bool (((reachO msg one).2) && (checks pub (((pw path.length : Nat) : Int)) (i) ((reachO msg one).1) path))) rfl D7 s6_7 ?_
 exact ⟨by show Value.bool _ = Value.bool _; rw [keyCheck_yes hp4], E7⟩

end Go.Proofs.YtmmghpbncejfiaaDoor
