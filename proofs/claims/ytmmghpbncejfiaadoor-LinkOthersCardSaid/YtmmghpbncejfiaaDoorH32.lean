/- The walks of functions of the program: printed. -/
import Derived.Test.YtmmghpbncejfiaaDoorKB
import Derived.Test.YtmmghpbncejfiaaDoorG112
import Derived.Test.YtmmghpbncejfiaaDoorG113
import Derived.Test.YtmmghpbncejfiaaDoorF0
set_option maxRecDepth 100000
namespace Go.Proofs.YtmmghpbncejfiaaDoor
open Go Go.RowKit Sk Sd
theorem call_8 : Callable Tryd.prog 8 := ⟨_, Tryd.func8, by kernel_rfl, rfl⟩
theorem arr_41 : ArrIs Tryd.prog 41 2 26 8 := ⟨Tryd.underlying41, by kernel_rfl⟩
theorem linkOthers (p q ra oa rb ob : Dg) (w0 : World) (hL : Laid w0) :
    Gives Tryd.prog 5 #[Dg.val (p), Dg.val (q), Value.agg #[w32 (ra).a, w32 (ra).b, w32 (ra).c, w32 (ra).d, w32 (oa).a, w32 (oa).b, w32 (oa).c, w32 (oa).d, w32 (rb).a, w32 (rb).b, w32 (rb).c, w32 (rb).d, w32 (ob).a, w32 (ob).b, w32 (ob).c, w32 (ob).d]] w0 (Pr.ex (Value.bool true)) := by
 refine enter (N := 52) Tryd.func5 rfl rfl ?_
 intro a0 N0 D0 hA
 have s0_0 : get a0 0 = Dg.val (p) := hA 0 _ rfl
 have s1_0 : get a0 1 = Dg.val (q) := hA 1 _ rfl
 have s2_0 : get a0 2 = Value.agg #[w32 (ra).a, w32 (ra).b, w32 (ra).c, w32 (ra).d, w32 (oa).a, w32 (oa).b, w32 (oa).c, w32 (oa).d, w32 (rb).a, w32 (rb).b, w32 (rb).c, w32 (rb).d, w32 (ob).a, w32 (ob).b, w32 (ob).c, w32 (ob).d] := hA 2 _ rfl
 clear hA
 have E0 : Ext w0 w0 := Ext.refl w0
 refine wp_seq ?_
 refine Rl [3, 4, 5] [(3, Pr.box' w0.heap.size 24 [w32 (p).a, w32 (p).b, w32 (p).c, w32 (p).d]), (4, Pr.box' w0.heap.size 24 [w32 (q).a, w32 (q).b, w32 (q).c, w32 (q).d]), (5, Pr.box' w0.heap.size 41 [w32 (ra).a, w32 (ra).b, w32 (ra).c, w32 (ra).d, w32 (oa).a, w32 (oa).b, w32 (oa).c, w32 (oa).d, w32 (rb).a, w32 (rb).b, w32 (rb).c, w32 (rb).d, w32 (ob).a, w32 (ob).b, w32 (ob).c, w32 (ob).d]), (6, Pr.ex (Value.bool (false)))] 4 N0 D0 ?_ ?_
 refine Ac ?_ (Ac ?_ (Ac ?_ (Ac ?_ (Az _))))
 refine Ask.fresh rfl rfl ?_
 intro aq wq hNq hO hR hT
 exact does_box (V := Dg.val (p)) (oT hO s0_0 rfl) (fun b w2 he hlo hb => ⟨he, ⟨b, rfl, Nat.le_trans hR.size' hlo, hb⟩, ⟨b, rfl, hlo, hb.lt⟩⟩)
 refine Ask.fresh rfl rfl ?_
 intro aq wq hNq hO hR hT
 exact does_box (V := Dg.val (q)) (oT hO s1_0 rfl) (fun b w2 he hlo hb => ⟨he, ⟨b, rfl, Nat.le_trans hR.size' hlo, hb⟩, ⟨b, rfl, hlo, hb.lt⟩⟩)
 refine Ask.fresh rfl rfl ?_
 intro aq wq hNq hO hR hT
 exact does_box (V := Value.agg #[w32 (ra).a, w32 (ra).b, w32 (ra).c, w32 (ra).d, w32 (oa).a, w32 (oa).b, w32 (oa).c, w32 (oa).d, w32 (rb).a, w32 (rb).b, w32 (rb).c, w32 (rb).d, w32 (ob).a, w32 (ob).b, w32 (ob).c, w32 (ob).d]) (oT hO s2_0 rfl) (fun b w2 he hlo hb => ⟨he, ⟨b, rfl, Nat.le_trans hR.size' hlo, hb⟩, ⟨b, rfl, hlo, hb.lt⟩⟩)
 exact Ap fun aq wq _ hO hR hT => does_assign (V := Value.bool (false)) rfl eR
 intro a1 wd1 N1 D1 hO hR hA hU
 obtain ⟨t3, t4, t5, _, _⟩ := hA
 have E1 := E0.trans hR
 obtain ⟨b3, s3_1, lo_b3, B3_1⟩ := t3
 have fr_b3 : w0.heap.size ≤ b3 := Nat.le_trans E0.size' lo_b3
 obtain ⟨b4, s4_1, lo_b4, B4_1⟩ := t4
 have fr_b4 : w0.heap.size ≤ b4 := Nat.le_trans E0.size' lo_b4
 obtain ⟨b5, s5_1, lo_b5, B5_1⟩ := t5
 have fr_b5 : w0.heap.size ≤ b5 := Nat.le_trans E0.size' lo_b5
 obtain ⟨u0, ⟨u1, ⟨u2, _⟩⟩⟩ := hU
 have ne_b3_b4 : b3 ≠ b4 := fun e => u0 4 (by decide) (by rw [s3_1, s4_1, e])
 have ne_b3_b5 : b3 ≠ b5 := fun e => u0 5 (by decide) (by rw [s3_1, s5_1, e])
 have ne_b4_b5 : b4 ≠ b5 := fun e => u1 5 (by decide) (by rw [s4_1, s5_1, e])
 clear E0 N0 D0 s0_0 s1_0 s2_0
 refine tail_nil ?_
 refine wp_seq ?_
 refine wp_seq ?_
 refine Rl [] [(10, Pr.ex (Value.bool (true))), (11, Pr.ex (Value.bool (false)))] 2 N1 D1 ?_ ?_
 refine Ac ?_ (Ac ?_ (Az _))
 exact Ap fun aq wq _ hO hR hT => does_ret (vs := #[]) call_8 args0 rfl ((awake44 wq (hL.ext (E1.trans hR))).mono fun v w2 h => ⟨h.2, h.1⟩)
 exact Ap fun aq wq _ hO hR hT => does_not (B := true) (hT 10 rfl rfl) eR
 intro a2 wd2 N2 D2 hO hR hA hU
 obtain ⟨_, t11, _⟩ := hA
 have E2 := E1.trans hR
 have s3_2 := oT hO s3_1 rfl
 have s4_2 := oT hO s4_1 rfl
 have s5_2 := oT hO s5_1 rfl
 have B3_2 := B3_1.ext' hR
 have B4_2 := B4_1.ext' hR
 have B5_2 := B5_1.ext' hR
 have s11_2 : get a2 11 = Value.bool (false) := t11
 clear E1 N1 D1 s3_1 s4_1 s5_1 B3_1 B4_1 B5_1
 refine tail_nil ?_
 refine wp_ifF s11_2 ?_
 refine wp_skip ?_
 refine wp_seq ?_
 refine Rl [] [(12, Pr.ex (Dg.val (p))), (13, Pr.ex (Value.pointer (some ⟨b5, 0, none⟩))), (14, Pr.ex (Value.agg #[w32 (ra).a, w32 (ra).b, w32 (ra).c, w32 (ra).d, w32 (oa).a, w32 (oa).b, w32 (oa).c, w32 (oa).d])), (15, Pr.ag2 (fun x y => Value.agg #[w32 (root (publics p (pw 0))).a, w32 (root (publics p (pw 0))).b, w32 (root (publics p (pw 0))).c, w32 (root (publics p (pw 0))).d, i64 ((0 : Nat) : Int), x, y]) (Pr.own' DG wd2.heap.size 24 (signed (seedAt p 0) (linkOf ra oa))) (Pr.own' DG wd2.heap.size 24 (way (publics p (pw 0)) 0)))] 4 N2 D2 ?_ ?_
 refine Ac ?_ (Ac ?_ (Ac ?_ (Ac ?_ (Az _))))
 exact Ap fun aq wq _ hO hR hT => does_loadD (o := 0) (n := 4) (mid := [w32 (p).a, w32 (p).b, w32 (p).c, w32 (p).d]) (oT hO s3_2 rfl) (B3_2.ext' hR) rfl rfl (nB rfl) row_24 rfl eR
 exact Ap fun aq wq _ hO hR hT => does_indexArr (k := .i64) (i := 0) (o' := 0) arr_41 (oT hO s5_2 rfl) rfl (by decide) (by decide) rfl eR
 exact Ap fun aq wq _ hO hR hT => does_loadD (o := 0) (n := 8) (mid := [w32 (ra).a, w32 (ra).b, w32 (ra).c, w32 (ra).d, w32 (oa).a, w32 (oa).b, w32 (oa).c, w32 (oa).d]) (hT 13 rfl rfl) (B5_2.ext' hR) rfl rfl (nB rfl) row_26 rfl eR
 exact Ap fun aq wq _ hO hR hT => does_ret (vs := #[Dg.val (p), i64 ((0 : Nat) : Int), i64 ((0 : Nat) : Int), Value.agg #[w32 (ra).a, w32 (ra).b, w32 (ra).c, w32 (ra).d, w32 (oa).a, w32 (oa).b, w32 (oa).c, w32 (oa).d]]) call_16 (args4 (hT 12 rfl rfl) rfl rfl (hT 14 rfl rfl)) rfl ((say_ p 0 0 ra oa wq (by decide) (by decide)).mono fun v w2 h => ⟨h.2, (by obtain ⟨z0, z1, hz, kz0, kz1⟩ := h.1; exact ⟨z0, z1, hz, OwnT.base kz0 hR.size', OwnT.base kz1 hR.size'⟩)⟩)
 intro a3 wd3 N3 D3 hO hR hA hU
 obtain ⟨_, _, _, t15, _⟩ := hA
 have E3 := E2.trans hR
 have s4_3 := oT hO s4_2 rfl
 have s5_3 := oT hO s5_2 rfl
 have B3_3 := B3_2.ext' hR
 have B4_3 := B4_2.ext' hR
 have B5_3 := B5_2.ext' hR
 obtain ⟨x15_0_3, x15_1_3, s15_3, ky15_0_3, ky15_1_3⟩ := t15
 replace ky15_0_3 : OwnT DG wd2.heap.size 24 (signed (seedAt p 0) (linkOf ra oa)) x15_0_3 wd3 := ky15_0_3
 have nbo_x15_0_3_b3 := Ob1 ky15_0_3 B3_2
 have nbo_x15_0_3_b4 := Ob1 ky15_0_3 B4_2
 have nbo_x15_0_3_b5 := Ob1 ky15_0_3 B5_2
 have X15_0_3_3 := ky15_0_3.sl.wide (Nat.zero_le _) (.inl rfl)
 have O15_0_3_3 := OwnT.base ky15_0_3 E2.size'
 replace ky15_1_3 : OwnT DG wd2.heap.size 24 (way (publics p (pw 0)) 0) x15_1_3 wd3 := ky15_1_3
 have nbo_x15_1_3_b3 := Ob1 ky15_1_3 B3_2
 have nbo_x15_1_3_b4 := Ob1 ky15_1_3 B4_2
 have nbo_x15_1_3_b5 := Ob1 ky15_1_3 B5_2
 have X15_1_3_3 := ky15_1_3.sl.wide (Nat.zero_le _) (.inl rfl)
 have O15_1_3_3 := OwnT.base ky15_1_3 E2.size'
 clear E2 N2 D2 s3_2 s4_2 s5_2 s11_2 B3_2 B4_2 B5_2
 refine tail_put rfl rfl N3 D3 (by decide) (does_alloc zero_32 (fun b7 wd4 he lo_b7 B7_4 => fun a4 N4 D4 hv hO => ?_))
 have s7_4 := hv
 have E4 := E3.trans he
 have B3_4 := B3_3.ext' he
 have B4_4 := B4_3.ext' he
 have B5_4 := B5_3.ext' he
 have X15_0_3_4 := X15_0_3_3.ext' he
 have X15_1_3_4 := X15_1_3_3.ext' he
 have O15_0_3_4 := O15_0_3_3.ext' he
 have O15_1_3_4 := O15_1_3_3.ext' he
 have fr_b7 : w0.heap.size ≤ b7 := Nat.le_trans E3.size' lo_b7
 have ne_b3_b7 := Hl B3_3 lo_b7
 have ne_b4_b7 := Hl B4_3 lo_b7
 have ne_b5_b7 := Hl B5_3 lo_b7
 have nb_x15_0_3_b7 := SlT.old X15_0_3_3 lo_b7
 have nb_x15_1_3_b7 := SlT.old X15_1_3_3 lo_b7
 have nbo_x15_0_3_b7 := Ol O15_0_3_3 lo_b7
 have nbo_x15_1_3_b7 := Ol O15_1_3_3 lo_b7
 have s4_4 := oT hO s4_3 rfl
 have s5_4 := oT hO s5_3 rfl
 have s15_4 := oT hO s15_3 rfl
 clear hO hv N3 D3 E3 B3_3 B4_3 B5_3 X15_0_3_3 X15_1_3_3 O15_0_3_3 O15_1_3_3 s4_3 s5_3 s15_3
 refine tail_none rfl rfl (does_storeD (o := 0) (n := 7) (cs' := [w32 (root (publics p (pw 0))).a, w32 (root (publics p (pw 0))).b, w32 (root (publics p (pw 0))).c, w32 (root (publics p (pw 0))).d, i64 ((0 : Nat) : Int), x15_0_3, x15_1_3]) (V := Value.agg #[w32 (root (publics p (pw 0))).a, w32 (root (publics p (pw 0))).b, w32 (root (publics p (pw 0))).c, w32 (root (publics p (pw 0))).d, i64 ((0 : Nat) : Int), x15_0_3, x15_1_3]) s7_4 s15_4 B7_4 (nB rfl) rfl siz_32 (one_cons rfl (one_cons rfl (one_cons rfl (one_cons rfl (one_cons rfl (one_cons (SlT.one X15_0_3_4) (one_cons (SlT.one X15_1_3_4) one_nil))))))) rfl (fun wd5 hX hz B7_5 => ?_))
 have E5 := E4.since hX (fun k e => e ▸ fr_b7)
 have B3_5 := B3_4.ext hX ne_b3_b7
 have B4_5 := B4_4.ext hX ne_b4_b7
 have B5_5 := B5_4.ext hX ne_b5_b7
 have X15_0_3_5 := SlT.over X15_0_3_4 hX nb_x15_0_3_b7
 have X15_1_3_5 := SlT.over X15_1_3_4 hX nb_x15_1_3_b7
 have O15_0_3_5 := OwnT.ext O15_0_3_4 hX (fun k hk e => nbo_x15_0_3_b7 (e ▸ hk))
 have O15_1_3_5 := OwnT.ext O15_1_3_4 hX (fun k hk e => nbo_x15_1_3_b7 (e ▸ hk))
 clear hX hz E4 B3_4 B4_4 B5_4 B7_4 X15_0_3_4 X15_1_3_4 O15_0_3_4 O15_1_3_4
 refine tail_nil ?_
 refine wp_seq ?_
 refine Rl [] [(16, Pr.ex (Dg.val (q))), (17, Pr.ex (Value.pointer (some ⟨b5, 8, none⟩))), (18, Pr.ex (Value.agg #[w32 (rb).a, w32 (rb).b, w32 (rb).c, w32 (rb).d, w32 (ob).a, w32 (ob).b, w32 (ob).c, w32 (ob).d])), (19, Pr.ag2 (fun x y => Value.agg #[w32 (root (publics q (pw 0))).a, w32 (root (publics q (pw 0))).b, w32 (root (publics q (pw 0))).c, w32 (root (publics q (pw 0))).d, i64 ((0 : Nat) : Int), x, y]) (Pr.own' DG wd5.heap.size 24 (signed (seedAt q 0) (linkOf rb ob))) (Pr.own' DG wd5.heap.size 24 (way (publics q (pw 0)) 0)))] 4 N4 D4 ?_ ?_
 refine Ac ?_ (Ac ?_ (Ac ?_ (Ac ?_ (Az _))))
 exact Ap fun aq wq _ hO hR hT => does_loadD (o := 0) (n := 4) (mid := [w32 (q).a, w32 (q).b, w32 (q).c, w32 (q).d]) (oT hO s4_4 rfl) (B4_5.ext' hR) rfl rfl (nB rfl) row_24 rfl eR
 exact Ap fun aq wq _ hO hR hT => does_indexArr (k := .i64) (i := 1) (o' := 8) arr_41 (oT hO s5_4 rfl) rfl (by decide) (by decide) rfl eR
 exact Ap fun aq wq _ hO hR hT => does_loadD (o := 8) (n := 8) (mid := [w32 (rb).a, w32 (rb).b, w32 (rb).c, w32 (rb).d, w32 (ob).a, w32 (ob).b, w32 (ob).c, w32 (ob).d]) (hT 17 rfl rfl) (B5_5.ext' hR) rfl rfl (nB rfl) row_26 rfl eR
 exact Ap fun aq wq _ hO hR hT => does_ret (vs := #[Dg.val (q), i64 ((0 : Nat) : Int), i64 ((0 : Nat) : Int), Value.agg #[w32 (rb).a, w32 (rb).b, w32 (rb).c, w32 (rb).d, w32 (ob).a, w32 (ob).b, w32 (ob).c, w32 (ob).d]]) call_16 (args4 (hT 16 rfl rfl) rfl rfl (hT 18 rfl rfl)) rfl ((say_ q 0 0 rb ob wq (by decide) (by decide)).mono fun v w2 h => ⟨h.2, (by obtain ⟨z0, z1, hz, kz0, kz1⟩ := h.1; exact ⟨z0, z1, hz, OwnT.base kz0 hR.size', OwnT.base kz1 hR.size'⟩)⟩)
 intro a6 wd6 N6 D6 hO hR hA hU
 obtain ⟨_, _, _, t19, _⟩ := hA
 have E6 := E5.trans hR
 have s5_6 := oT hO s5_4 rfl
 have s7_6 := oT hO s7_4 rfl
 have B3_6 := B3_5.ext' hR
 have B4_6 := B4_5.ext' hR
 have B5_6 := B5_5.ext' hR
 have B7_6 := B7_5.ext' hR
 have X15_0_3_6 := X15_0_3_5.ext' hR
 have X15_1_3_6 := X15_1_3_5.ext' hR
 have O15_0_3_6 := O15_0_3_5.ext' hR
 have O15_1_3_6 := O15_1_3_5.ext' hR
 obtain ⟨x19_0_6, x19_1_6, s19_6, ky19_0_6, ky19_1_6⟩ := t19
 replace ky19_0_6 : OwnT DG wd5.heap.size 24 (signed (seedAt q 0) (linkOf rb ob)) x19_0_6 wd6 := ky19_0_6
 have nbo_x19_0_6_b3 := Ob1 ky19_0_6 B3_5
 have nbo_x19_0_6_b4 := Ob1 ky19_0_6 B4_5
 have nbo_x19_0_6_b5 := Ob1 ky19_0_6 B5_5
 have nbo_x19_0_6_b7 := Ob1 ky19_0_6 B7_5
 have no_x19_0_6_x15_0_3 := Oo ky19_0_6 O15_0_3_5
 have no_x19_0_6_x15_1_3 := Oo ky19_0_6 O15_1_3_5
 have X19_0_6_6 := ky19_0_6.sl.wide (Nat.zero_le _) (.inl rfl)
 have O19_0_6_6 := OwnT.base ky19_0_6 E5.size'
 replace ky19_1_6 : OwnT DG wd5.heap.size 24 (way (publics q (pw 0)) 0) x19_1_6 wd6 := ky19_1_6
 have nbo_x19_1_6_b3 := Ob1 ky19_1_6 B3_5
 have nbo_x19_1_6_b4 := Ob1 ky19_1_6 B4_5
 have nbo_x19_1_6_b5 := Ob1 ky19_1_6 B5_5
 have nbo_x19_1_6_b7 := Ob1 ky19_1_6 B7_5
 have no_x19_1_6_x15_0_3 := Oo ky19_1_6 O15_0_3_5
 have no_x19_1_6_x15_1_3 := Oo ky19_1_6 O15_1_3_5
 have X19_1_6_6 := ky19_1_6.sl.wide (Nat.zero_le _) (.inl rfl)
 have O19_1_6_6 := OwnT.base ky19_1_6 E5.size'
 clear E5 N4 D4 s4_4 s5_4 s7_4 s15_4 B3_5 B4_5 B5_5 B7_5 X15_0_3_5 X15_1_3_5 O15_0_3_5 O15_1_3_5
 refine tail_put rfl rfl N6 D6 (by decide) (does_alloc zero_32 (fun b8 wd7 he lo_b8 B8_7 => fun a7 N7 D7 hv hO => ?_))
 have s8_7 := hv
 have E7 := E6.trans he
 have B3_7 := B3_6.ext' he
 have B4_7 := B4_6.ext' he
 have B5_7 := B5_6.ext' he
 have B7_7 := B7_6.ext' he
 have X15_0_3_7 := X15_0_3_6.ext' he
 have X15_1_3_7 := X15_1_3_6.ext' he
 have X19_0_6_7 := X19_0_6_6.ext' he
 have X19_1_6_7 := X19_1_6_6.ext' he
 have O15_0_3_7 := O15_0_3_6.ext' he
 have O15_1_3_7 := O15_1_3_6.ext' he
 have O19_0_6_7 := O19_0_6_6.ext' he
 have O19_1_6_7 := O19_1_6_6.ext' he
 have fr_b8 : w0.heap.size ≤ b8 := Nat.le_trans E6.size' lo_b8
 have ne_b3_b8 := Hl B3_6 lo_b8
 have ne_b4_b8 := Hl B4_6 lo_b8
 have ne_b5_b8 := Hl B5_6 lo_b8
 have ne_b7_b8 := Hl B7_6 lo_b8
 have nb_x15_0_3_b8 := SlT.old X15_0_3_6 lo_b8
 have nb_x15_1_3_b8 := SlT.old X15_1_3_6 lo_b8
 have nb_x19_0_6_b8 := SlT.old X19_0_6_6 lo_b8
 have nb_x19_1_6_b8 := SlT.old X19_1_6_6 lo_b8
 have nbo_x15_0_3_b8 := Ol O15_0_3_6 lo_b8
 have nbo_x15_1_3_b8 := Ol O15_1_3_6 lo_b8
 have nbo_x19_0_6_b8 := Ol O19_0_6_6 lo_b8
 have nbo_x19_1_6_b8 := Ol O19_1_6_6 lo_b8
 have s5_7 := oT hO s5_6 rfl
 have s7_7 := oT hO s7_6 rfl
 have s19_7 := oT hO s19_6 rfl
 clear hO hv N6 D6 E6 B3_6 B4_6 B5_6 B7_6 X15_0_3_6 X15_1_3_6 X19_0_6_6 X19_1_6_6 O15_0_3_6 O15_1_3_6 O19_0_6_6 O19_1_6_6 s5_6 s7_6 s19_6
 refine tail_none rfl rfl (does_storeD (o := 0) (n := 7) (cs' := [w32 (root (publics q (pw 0))).a, w32 (root (publics q (pw 0))).b, w32 (root (publics q (pw 0))).c, w32 (root (publics q (pw 0))).d, i64 ((0 : Nat) : Int), x19_0_6, x19_1_6]) (V := Value.agg #[w32 (root (publics q (pw 0))).a, w32 (root (publics q (pw 0))).b, w32 (root (publics q (pw 0))).c, w32 (root (publics q (pw 0))).d, i64 ((0 : Nat) : Int), x19_0_6, x19_1_6]) s8_7 s19_7 B8_7 (nB rfl) rfl siz_32 (one_cons rfl (one_cons rfl (one_cons rfl (one_cons rfl (one_cons rfl (one_cons (SlT.one X19_0_6_7) (one_cons (SlT.one X19_1_6_7) one_nil))))))) rfl (fun wd8 hX hz B8_8 => ?_))
 have E8 := E7.since hX (fun k e => e ▸ fr_b8)
 have B3_8 := B3_7.ext hX ne_b3_b8
 have B4_8 := B4_7.ext hX ne_b4_b8
 have B5_8 := B5_7.ext hX ne_b5_b8
 have B7_8 := B7_7.ext hX ne_b7_b8
 have X15_0_3_8 := SlT.over X15_0_3_7 hX nb_x15_0_3_b8
 have X15_1_3_8 := SlT.over X15_1_3_7 hX nb_x15_1_3_b8
 have X19_0_6_8 := SlT.over X19_0_6_7 hX nb_x19_0_6_b8
 have X19_1_6_8 := SlT.over X19_1_6_7 hX nb_x19_1_6_b8
 have O15_0_3_8 := OwnT.ext O15_0_3_7 hX (fun k hk e => nbo_x15_0_3_b8 (e ▸ hk))
 have O15_1_3_8 := OwnT.ext O15_1_3_7 hX (fun k hk e => nbo_x15_1_3_b8 (e ▸ hk))
 have O19_0_6_8 := OwnT.ext O19_0_6_7 hX (fun k hk e => nbo_x19_0_6_b8 (e ▸ hk))
 have O19_1_6_8 := OwnT.ext O19_1_6_7 hX (fun k hk e => nbo_x19_1_6_b8 (e ▸ hk))
 clear hX hz E7 B3_7 B4_7 B5_7 B7_7 B8_7 X15_0_3_7 X15_1_3_7 X19_0_6_7 X19_1_6_7 O15_0_3_7 O15_1_3_7 O19_0_6_7 O19_1_6_7
 refine tail_nil ?_
 refine wp_seq ?_
 refine Rl [] [(20, Pr.ex (Value.pointer (some ⟨b5, 0, none⟩))), (21, Pr.ex (Value.agg #[w32 (ra).a, w32 (ra).b, w32 (ra).c, w32 (ra).d, w32 (oa).a, w32 (oa).b, w32 (oa).c, w32 (oa).d])), (22, Pr.ex (Value.agg #[w32 (root (publics p (pw 0))).a, w32 (root (publics p (pw 0))).b, w32 (root (publics p (pw 0))).c, w32 (root (publics p (pw 0))).d, i64 ((0 : Nat) : Int), x15_0_3, x15_1_3])), (23, Pr.ex (Value.pointer (some ⟨b5, 8, none⟩))), (24, Pr.ex (Value.agg #[w32 (rb).a, w32 (rb).b, w32 (rb).c, w32 (rb).d, w32 (ob).a, w32 (ob).b, w32 (ob).c, w32 (ob).d])), (25, Pr.ex (Value.agg #[w32 (root (publics q (pw 0))).a, w32 (root (publics q (pw 0))).b, w32 (root (publics q (pw 0))).c, w32 (root (publics q (pw 0))).d, i64 ((0 : Nat) : Int), x19_0_6, x19_1_6])), (26, Pr.ex (Value.bool (twiceB (root (publics p (pw 0))) ra oa (((0 : Nat) : Int)) (signed (seedAt p 0) (linkOf ra oa)) (way (publics p (pw 0)) 0) (root (publics q (pw 0))) rb ob (((0 : Nat) : Int)) (signed (seedAt q 0) (linkOf rb ob)) (way (publics q (pw 0)) 0)))), (9, Pr.ex (Value.bool (twiceB (root (publics p (pw 0))) ra oa (((0 : Nat) : Int)) (signed (seedAt p 0) (linkOf ra oa)) (way (publics p (pw 0)) 0) (root (publics q (pw 0))) rb ob (((0 : Nat) : Int)) (signed (seedAt q 0) (linkOf rb ob)) (way (publics q (pw 0)) 0))))] 8 N7 D7 ?_ ?_
 refine Ac ?_ (Ac ?_ (Ac ?_ (Ac ?_ (Ac ?_ (Ac ?_ (Ac ?_ (Ac ?_ (Az _))))))))
 exact Ap fun aq wq _ hO hR hT => does_indexArr (k := .i64) (i := 0) (o' := 0) arr_41 (oT hO s5_7 rfl) rfl (by decide) (by decide) rfl eR
 exact Ap fun aq wq _ hO hR hT => does_loadD (o := 0) (n := 8) (mid := [w32 (ra).a, w32 (ra).b, w32 (ra).c, w32 (ra).d, w32 (oa).a, w32 (oa).b, w32 (oa).c, w32 (oa).d]) (hT 20 rfl rfl) (B5_8.ext' hR) rfl rfl (nB rfl) row_26 rfl eR
 exact Ap fun aq wq _ hO hR hT => does_loadD (o := 0) (n := 7) (mid := [w32 (root (publics p (pw 0))).a, w32 (root (publics p (pw 0))).b, w32 (root (publics p (pw 0))).c, w32 (root (publics p (pw 0))).d, i64 ((0 : Nat) : Int), x15_0_3, x15_1_3]) (oT hO s7_7 rfl) (B7_8.ext' hR) rfl rfl (nB rfl) row_32 rfl eR
 exact Ap fun aq wq _ hO hR hT => does_indexArr (k := .i64) (i := 1) (o' := 8) arr_41 (oT hO s5_7 rfl) rfl (by decide) (by decide) rfl eR
 exact Ap fun aq wq _ hO hR hT => does_loadD (o := 8) (n := 8) (mid := [w32 (rb).a, w32 (rb).b, w32 (rb).c, w32 (rb).d, w32 (ob).a, w32 (ob).b, w32 (ob).c, w32 (ob).d]) (hT 23 rfl rfl) (B5_8.ext' hR) rfl rfl (nB rfl) row_26 rfl eR
 exact Ap fun aq wq _ hO hR hT => does_loadD (o := 0) (n := 7) (mid := [w32 (root (publics q (pw 0))).a, w32 (root (publics q (pw 0))).b, w32 (root (publics q (pw 0))).c, w32 (root (publics q (pw 0))).d, i64 ((0 : Nat) : Int), x19_0_6, x19_1_6]) (oT hO s8_7 rfl) (B8_8.ext' hR) rfl rfl (nB rfl) row_32 rfl eR
 exact Ap fun aq wq _ hO hR hT => does_ret (vs := #[Value.agg #[w32 (ra).a, w32 (ra).b, w32 (ra).c, w32 (ra).d, w32 (oa).a, w32 (oa).b, w32 (oa).c, w32 (oa).d], Value.agg #[w32 (root (publics p (pw 0))).a, w32 (root (publics p (pw 0))).b, w32 (root (publics p (pw 0))).c, w32 (root (publics p (pw 0))).d, i64 ((0 : Nat) : Int), x15_0_3, x15_1_3], Value.agg #[w32 (rb).a, w32 (rb).b, w32 (rb).c, w32 (rb).d, w32 (ob).a, w32 (ob).b, w32 (ob).c, w32 (ob).d], Value.agg #[w32 (root (publics q (pw 0))).a, w32 (root (publics q (pw 0))).b, w32 (root (publics q (pw 0))).c, w32 (root (publics q (pw 0))).d, i64 ((0 : Nat) : Int), x19_0_6, x19_1_6]]) call_14 (args4 (hT 21 rfl rfl) (hT 22 rfl rfl) (hT 24 rfl rfl) (hT 25 rfl rfl)) rfl ((twice_ ra oa (root (publics p (pw 0))) (((0 : Nat) : Int)) (signed (seedAt p 0) (linkOf ra oa)) (way (publics p (pw 0)) 0) rb ob (root (publics q (pw 0))) (((0 : Nat) : Int)) (signed (seedAt q 0) (linkOf rb ob)) (way (publics q (pw 0)) 0) (x15_0_3) (x15_1_3) (x19_0_6) (x19_1_6) wq (hL.ext (E8.trans hR)) ((X15_0_3_8.ext' hR).wide (Nat.zero_le _) (.inl rfl)) ((X15_1_3_8.ext' hR).wide (Nat.zero_le _) (.inl rfl)) ((X19_0_6_8.ext' hR).wide (Nat.zero_le _) (.inl rfl)) ((X19_1_6_8.ext' hR).wide (Nat.zero_le _) (.inl rfl)) (by rw [signed_length]; decide) (by rw [way_pw 0 _ _ (publics_length _ _) (by rw [publics_length]; decide)]; decide) (by rw [signed_length]; decide) (by rw [way_pw 0 _ _ (publics_length _ _) (by rw [publics_length]; decide)]; decide)).mono fun v w2 h => ⟨h.2, h.1⟩)
 exact Ap fun aq wq _ hO hR hT => does_assign (V := Value.bool (twiceB (root (publics p (pw 0))) ra oa (((0 : Nat) : Int)) (signed (seedAt p 0) (linkOf ra oa)) (way (publics p (pw 0)) 0) (root (publics q (pw 0))) rb ob (((0 : Nat) : Int)) (signed (seedAt q 0) (linkOf rb ob)) (way (publics q (pw 0)) 0))) (hT 26 rfl rfl) eR
 intro a9 wd9 N9 D9 hO hR hA hU
 obtain ⟨_, _, _, _, _, _, _, t9, _⟩ := hA
 have E9 := E8.trans hR
 have s5_9 := oT hO s5_7 rfl
 have s7_9 := oT hO s7_7 rfl
 have s8_9 := oT hO s8_7 rfl
 have B3_9 := B3_8.ext' hR
 have B4_9 := B4_8.ext' hR
 have B5_9 := B5_8.ext' hR
 have B7_9 := B7_8.ext' hR
 have B8_9 := B8_8.ext' hR
 have X15_0_3_9 := X15_0_3_8.ext' hR
 have X15_1_3_9 := X15_1_3_8.ext' hR
 have X19_0_6_9 := X19_0_6_8.ext' hR
 have X19_1_6_9 := X19_1_6_8.ext' hR
 have O15_0_3_9 := O15_0_3_8.ext' hR
 have O15_1_3_9 := O15_1_3_8.ext' hR
 have O19_0_6_9 := O19_0_6_8.ext' hR
 have O19_1_6_9 := O19_1_6_8.ext' hR
 have s9_9 : get a9 9 = Value.bool (twiceB (root (publics p (pw 0))) ra oa (((0 : Nat) : Int)) (signed (seedAt p 0) (linkOf ra oa)) (way (publics p (pw 0)) 0) (root (publics q (pw 0))) rb ob (((0 : Nat) : Int)) (signed (seedAt q 0) (linkOf rb ob)) (way (publics q (pw 0)) 0)) := t9
 clear E8 N7 D7 s5_7 s7_7 s8_7 s19_7 B3_8 B4_8 B5_8 B7_8 B8_8 X15_0_3_8 X15_1_3_8 X19_0_6_8 X19_1_6_8 O15_0_3_8 O15_1_3_8 O19_0_6_8 O19_1_6_8
 refine tail_nil ?_
 refine wp_seq ?_
 refine wp_seq ?_
 refine Rl [] [(27, Pr.ex (Value.pointer (some ⟨b7, 0, none⟩))), (28, Pr.ex (Dg.val (root (publics p (pw 0))))), (29, Pr.ex (Value.pointer (some ⟨b8, 0, none⟩))), (30, Pr.ex (Dg.val (root (publics q (pw 0))))), (31, Pr.ex (Value.bool (!decide (root (publics p (pw 0)) = root (publics q (pw 0))))))] 5 N9 D9 ?_ ?_
 refine Ac ?_ (Ac ?_ (Ac ?_ (Ac ?_ (Ac ?_ (Az _)))))
 exact Ap fun aq wq _ hO hR hT => does_field (o' := 0) fld_32_0 (oT hO s7_9 rfl) rfl eR
 exact Ap fun aq wq _ hO hR hT => does_loadD (o := 0) (n := 4) (mid := [w32 (root (publics p (pw 0))).a, w32 (root (publics p (pw 0))).b, w32 (root (publics p (pw 0))).c, w32 (root (publics p (pw 0))).d]) (hT 27 rfl rfl) (B7_9.ext' hR) rfl rfl (nB rfl) row_24 rfl eR
 exact Ap fun aq wq _ hO hR hT => does_field (o' := 0) fld_32_0 (oT hO s8_9 rfl) rfl eR
 exact Ap fun aq wq _ hO hR hT => does_loadD (o := 0) (n := 4) (mid := [w32 (root (publics q (pw 0))).a, w32 (root (publics q (pw 0))).b, w32 (root (publics q (pw 0))).c, w32 (root (publics q (pw 0))).d]) (hT 29 rfl rfl) (B8_9.ext' hR) rfl rfl (nB rfl) row_24 rfl eR
 exact Ap fun aq wq _ hO hR hT => does_neT (a := root (publics p (pw 0))) (b := root (publics q (pw 0))) eq_24 (hT 28 rfl rfl) (hT 30 rfl rfl) eR
 intro a10 wd10 N10 D10 hO hR hA hU
 obtain ⟨_, _, _, _, t31, _⟩ := hA
 have E10 := E9.trans hR
 have s5_10 := oT hO s5_9 rfl
 have s9_10 := oT hO s9_9 rfl
 have B3_10 := B3_9.ext' hR
 have B4_10 := B4_9.ext' hR
 have B5_10 := B5_9.ext' hR
 have B7_10 := B7_9.ext' hR
 have B8_10 := B8_9.ext' hR
 have X15_0_3_10 := X15_0_3_9.ext' hR
 have X15_1_3_10 := X15_1_3_9.ext' hR
 have X19_0_6_10 := X19_0_6_9.ext' hR
 have X19_1_6_10 := X19_1_6_9.ext' hR
 have O15_0_3_10 := O15_0_3_9.ext' hR
 have O15_1_3_10 := O15_1_3_9.ext' hR
 have O19_0_6_10 := O19_0_6_9.ext' hR
 have O19_1_6_10 := O19_1_6_9.ext' hR
 have s31_10 : get a10 31 = Value.bool (!decide (root (publics p (pw 0)) = root (publics q (pw 0)))) := t31
 clear E9 N9 D9 s5_9 s7_9 s8_9 s9_9 B3_9 B4_9 B5_9 B7_9 B8_9 X15_0_3_9 X15_1_3_9 X19_0_6_9 X19_1_6_9 O15_0_3_9 O15_1_3_9 O19_0_6_9 O19_1_6_9
 refine tail_nil ?_
 refine wp_if (B := !decide (root (publics p (pw 0)) = root (publics q (pw 0)))) s31_10 (fun hc0 => ?_) (fun hc0 => ?_)
 have hc0 := of_decide_eq_false (bn hc0)
 refine wp_seq ?_
 refine Rl [] [(32, Pr.ex (Value.bool (twiceB (root (publics p (pw 0))) ra oa (((0 : Nat) : Int)) (signed (seedAt p 0) (linkOf ra oa)) (way (publics p (pw 0)) 0) (root (publics q (pw 0))) rb ob (((0 : Nat) : Int)) (signed (seedAt q 0) (linkOf rb ob)) (way (publics q (pw 0)) 0)))), (33, Pr.ex (Value.bool (!(twiceB (root (publics p (pw 0))) ra oa (((0 : Nat) : Int)) (signed (seedAt p 0) (linkOf ra oa)) (way (publics p (pw 0)) 0) (root (publics q (pw 0))) rb ob (((0 : Nat) : Int)) (signed (seedAt q 0) (linkOf rb ob)) (way (publics q (pw 0)) 0))))), (6, Pr.ex (Value.bool (!(twiceB (root (publics p (pw 0))) ra oa (((0 : Nat) : Int)) (signed (seedAt p 0) (linkOf ra oa)) (way (publics p (pw 0)) 0) (root (publics q (pw 0))) rb ob (((0 : Nat) : Int)) (signed (seedAt q 0) (linkOf rb ob)) (way (publics q (pw 0)) 0)))))] 3 N10 D10 ?_ ?_
 refine Ac ?_ (Ac ?_ (Ac ?_ (Az _)))
 exact Am s9_10 rfl fun _ => rfl
 exact Ap fun aq wq _ hO hR hT => does_not (B := twiceB (root (publics p (pw 0))) ra oa (((0 : Nat) : Int)) (signed (seedAt p 0) (linkOf ra oa)) (way (publics p (pw 0)) 0) (root (publics q (pw 0))) rb ob (((0 : Nat) : Int)) (signed (seedAt q 0) (linkOf rb ob)) (way (publics q (pw 0)) 0)) (hT 32 rfl rfl) eR
 exact Ap fun aq wq _ hO hR hT => does_assign (V := Value.bool (!(twiceB (root (publics p (pw 0))) ra oa (((0 : Nat) : Int)) (signed (seedAt p 0) (linkOf ra oa)) (way (publics p (pw 0)) 0) (root (publics q (pw 0))) rb ob (((0 : Nat) : Int)) (signed (seedAt q 0) (linkOf rb ob)) (way (publics q (pw 0)) 0)))) (hT 33 rfl rfl) eR
 intro a11 wd11 N11 D11 hO hR hA hU
 obtain ⟨_, _, t6, _⟩ := hA
 have E11 := E10.trans hR
 have B3_11 := B3_10.ext' hR
 have B4_11 := B4_10.ext' hR
 have B5_11 := B5_10.ext' hR
 have B7_11 := B7_10.ext' hR
 have B8_11 := B8_10.ext' hR
 have X15_0_3_11 := X15_0_3_10.ext' hR
 have X15_1_3_11 := X15_1_3_10.ext' hR
 have X19_0_6_11 := X19_0_6_10.ext' hR
 have X19_1_6_11 := X19_1_6_10.ext' hR
 have O15_0_3_11 := O15_0_3_10.ext' hR
 have O15_1_3_11 := O15_1_3_10.ext' hR
 have O19_0_6_11 := O19_0_6_10.ext' hR
 have O19_1_6_11 := O19_1_6_10.ext' hR
 have s6_11 : get a11 6 = Value.bool (!(twiceB (root (publics p (pw 0))) ra oa (((0 : Nat) : Int)) (signed (seedAt p 0) (linkOf ra oa)) (way (publics p (pw 0)) 0) (root (publics q (pw 0))) rb ob (((0 : Nat) : Int)) (signed (seedAt q 0) (linkOf rb ob)) (way (publics q (pw 0)) 0))) := t6
 clear E10 N10 D10 s5_10 s9_10 s31_10 B3_10 B4_10 B5_10 B7_10 B8_10 X15_0_3_10 X15_1_3_10 X19_0_6_10 X19_1_6_10 O15_0_3_10 O15_1_3_10 O19_0_6_10 O19_1_6_10
 refine tail_nil ?_
 refine wp_ret ?_
 refine res_one (V := Value.bool (!(twiceB (root (publics p (pw 0))) ra oa (((0 : Nat) : Int)) (signed (seedAt p 0) (linkOf ra oa)) (way (publics p (pw 0)) 0) (root (publics q (pw 0))) rb ob (((0 : Nat) : Int)) (signed (seedAt q 0) (linkOf rb ob)) (way (publics q (pw 0)) 0)))) rfl D11 s6_11 ?_
 exact ⟨congrArg Value.bool (by rw [twiceB_others hc0]; rfl), E11⟩
 have hc0 := of_decide_eq_true (bn' hc0)
 refine wp_skip ?_
 refine wp_seq ?_
 refine Rl [] [(34, Pr.ex (Value.bool (twiceB (root (publics p (pw 0))) ra oa (((0 : Nat) : Int)) (signed (seedAt p 0) (linkOf ra oa)) (way (publics p (pw 0)) 0) (root (publics q (pw 0))) rb ob (((0 : Nat) : Int)) (signed (seedAt q 0) (linkOf rb ob)) (way (publics q (pw 0)) 0)))), (35, Pr.ex (Value.pointer (some ⟨b5, 0, none⟩))), (36, Pr.ex (Value.pointer (some ⟨b5, 0, none⟩))), (37, Pr.ex (Dg.val (ra))), (38, Pr.ex (Value.pointer (some ⟨b5, 8, none⟩))), (39, Pr.ex (Value.pointer (some ⟨b5, 8, none⟩))), (40, Pr.ex (Dg.val (rb))), (41, Pr.ex (Value.bool (decide (ra = rb)))), (42, Pr.ex (Value.bool (decide (ra = rb)))), (43, Pr.ifb (decide (ra = rb)) (Pr.ex (Value.pointer (some ⟨b5, 0, none⟩)))), (44, Pr.ifb (decide (ra = rb)) (Pr.ex (Value.pointer (some ⟨b5, 4, none⟩)))), (45, Pr.ifb (decide (ra = rb)) (Pr.ex (Dg.val (oa)))), (46, Pr.ifb (decide (ra = rb)) (Pr.ex (Value.pointer (some ⟨b5, 8, none⟩)))), (47, Pr.ifb (decide (ra = rb)) (Pr.ex (Value.pointer (some ⟨b5, 12, none⟩)))), (48, Pr.ifb (decide (ra = rb)) (Pr.ex (Dg.val (ob)))), (49, Pr.ifb (decide (ra = rb)) (Pr.ex (Value.bool (!decide (oa = ob))))), (50, Pr.ex (Value.bool ((decide (ra = rb)) && (!decide (oa = ob))))), (51, Pr.ex (Value.bool (((twiceB (root (publics p (pw 0))) ra oa (((0 : Nat) : Int)) (signed (seedAt p 0) (linkOf ra oa)) (way (publics p (pw 0)) 0) (root (publics q (pw 0))) rb ob (((0 : Nat) : Int)) (signed (seedAt q 0) (linkOf rb ob)) (way (publics q (pw 0)) 0)) == ((decide (ra = rb)) && (!decide (oa = ob))))))), (6, Pr.ex (Value.bool (((twiceB (root (publics p (pw 0))) ra oa (((0 : Nat) : Int)) (signed (seedAt p 0) (linkOf ra oa)) (way (publics p (pw 0)) 0) (root (publics q (pw 0))) rb ob (((0 : Nat) : Int)) (signed (seedAt q 0) (linkOf rb ob)) (way (publics q (pw 0)) 0)) == ((decide (ra = rb)) && (!decide (oa = ob)))))))] 19 N10 D10 ?_ ?_
 refine Ac ?_ (Ac ?_ (Ac ?_ (Ac ?_ (Ac ?_ (Ac ?_ (Ac ?_ (Ac ?_ (Ac ?_ (Ac ?_ (Ac ?_ (Ac ?_ (Ac ?_ (Ac ?_ (Ac ?_ (Ac ?_ (Ac ?_ (Ac ?_ (Ac ?_ (Az _)))))))))))))))))))
 exact Am s9_10 rfl fun _ => rfl
 exact Ap fun aq wq _ hO hR hT => does_indexArr (k := .i64) (i := 0) (o' := 0) arr_41 (oT hO s5_10 rfl) rfl (by decide) (by decide) rfl eR
 exact Ap fun aq wq _ hO hR hT => does_field (o' := 0) fld_26_0 (hT 35 rfl rfl) rfl eR
 exact Ap fun aq wq _ hO hR hT => does_loadD (o := 0) (n := 4) (mid := [w32 (ra).a, w32 (ra).b, w32 (ra).c, w32 (ra).d]) (hT 36 rfl rfl) (B5_10.ext' hR) rfl rfl (nB rfl) row_24 rfl eR
 exact Ap fun aq wq _ hO hR hT => does_indexArr (k := .i64) (i := 1) (o' := 8) arr_41 (oT hO s5_10 rfl) rfl (by decide) (by decide) rfl eR
 exact Ap fun aq wq _ hO hR hT => does_field (o' := 8) fld_26_0 (hT 38 rfl rfl) rfl eR
 exact Ap fun aq wq _ hO hR hT => does_loadD (o := 8) (n := 4) (mid := [w32 (rb).a, w32 (rb).b, w32 (rb).c, w32 (rb).d]) (hT 39 rfl rfl) (B5_10.ext' hR) rfl rfl (nB rfl) row_24 rfl eR
 exact Ap fun aq wq _ hO hR hT => does_eqT (a := ra) (b := rb) eq_24 (hT 37 rfl rfl) (hT 40 rfl rfl) eR
 exact Ap fun aq wq _ hO hR hT => does_move (V := Value.bool (decide (ra = rb))) (hT 41 rfl rfl) eR
 refine Ask.guarded (B := decide (ra = rb)) (want := true) (t := 42) rfl rfl rfl rfl (by decide) (fun aq wq hO hR hT => hT 42 rfl rfl) (fun hG aq wq hNq hO hR hT => ?_) (fun hno _ => fun hc => absurd hc hno)
 exact does_indexArr (k := .i64) (i := 0) (o' := 0) arr_41 (oT hO s5_10 rfl) rfl (by decide) (by decide) rfl ⟨Ext.refl _, fun _ => rfl⟩
 refine Ask.guarded (B := decide (ra = rb)) (want := true) (t := 42) rfl rfl rfl rfl (by decide) (fun aq wq hO hR hT => hT 42 rfl rfl) (fun hG aq wq hNq hO hR hT => ?_) (fun hno _ => fun hc => absurd hc hno)
 exact does_field (o' := 4) fld_26_1 (hT 43 rfl rfl hG) rfl ⟨Ext.refl _, fun _ => rfl⟩
 refine Ask.guarded (B := decide (ra = rb)) (want := true) (t := 42) rfl rfl rfl rfl (by decide) (fun aq wq hO hR hT => hT 42 rfl rfl) (fun hG aq wq hNq hO hR hT => ?_) (fun hno _ => fun hc => absurd hc hno)
 exact does_loadD (o := 4) (n := 4) (mid := [w32 (oa).a, w32 (oa).b, w32 (oa).c, w32 (oa).d]) (hT 44 rfl rfl hG) (B5_10.ext' hR) rfl rfl (nB rfl) row_24 rfl ⟨Ext.refl _, fun _ => rfl⟩
 refine Ask.guarded (B := decide (ra = rb)) (want := true) (t := 42) rfl rfl rfl rfl (by decide) (fun aq wq hO hR hT => hT 42 rfl rfl) (fun hG aq wq hNq hO hR hT => ?_) (fun hno _ => fun hc => absurd hc hno)
 exact does_indexArr (k := .i64) (i := 1) (o' := 8) arr_41 (oT hO s5_10 rfl) rfl (by decide) (by decide) rfl ⟨Ext.refl _, fun _ => rfl⟩
 refine Ask.guarded (B := decide (ra = rb)) (want := true) (t := 42) rfl rfl rfl rfl (by decide) (fun aq wq hO hR hT => hT 42 rfl rfl) (fun hG aq wq hNq hO hR hT => ?_) (fun hno _ => fun hc => absurd hc hno)
 exact does_field (o' := 12) fld_26_1 (hT 46 rfl rfl hG) rfl ⟨Ext.refl _, fun _ => rfl⟩
 refine Ask.guarded (B := decide (ra = rb)) (want := true) (t := 42) rfl rfl rfl rfl (by decide) (fun aq wq hO hR hT => hT 42 rfl rfl) (fun hG aq wq hNq hO hR hT => ?_) (fun hno _ => fun hc => absurd hc hno)
 exact does_loadD (o := 12) (n := 4) (mid := [w32 (ob).a, w32 (ob).b, w32 (ob).c, w32 (ob).d]) (hT 47 rfl rfl hG) (B5_10.ext' hR) rfl rfl (nB rfl) row_24 rfl ⟨Ext.refl _, fun _ => rfl⟩
 refine Ask.guarded (B := decide (ra = rb)) (want := true) (t := 42) rfl rfl rfl rfl (by decide) (fun aq wq hO hR hT => hT 42 rfl rfl) (fun hG aq wq hNq hO hR hT => ?_) (fun hno _ => fun hc => absurd hc hno)
 exact does_neT (a := oa) (b := ob) eq_24 (hT 45 rfl rfl hG) (hT 48 rfl rfl hG) ⟨Ext.refl _, fun _ => rfl⟩
 exact Ap fun aq wq _ hO hR hT => does_and (B := decide (ra = rb)) (X := !decide (oa = ob)) (hT 42 rfl rfl) (fun hB => (hT 49 rfl rfl hB)) rfl eR
 exact Ap fun aq wq _ hO hR hT => does_eqB Tryd.underlying4 (hT 34 rfl rfl) (hT 50 rfl rfl) eR
 exact Ap fun aq wq _ hO hR hT => does_assign (V := Value.bool (((twiceB (root (publics p (pw 0))) ra oa (((0 : Nat) : Int)) (signed (seedAt p 0) (linkOf ra oa)) (way (publics p (pw 0)) 0) (root (publics q (pw 0))) rb ob (((0 : Nat) : Int)) (signed (seedAt q 0) (linkOf rb ob)) (way (publics q (pw 0)) 0)) == ((decide (ra = rb)) && (!decide (oa = ob)))))) (hT 51 rfl rfl) eR
 intro a12 wd12 N12 D12 hO hR hA hU
 obtain ⟨_, _, _, _, _, _, _, _, _, _, _, _, _, _, _, _, _, _, t6, _⟩ := hA
 have E12 := E10.trans hR
 have B3_12 := B3_10.ext' hR
 have B4_12 := B4_10.ext' hR
 have B5_12 := B5_10.ext' hR
 have B7_12 := B7_10.ext' hR
 have B8_12 := B8_10.ext' hR
 have X15_0_3_12 := X15_0_3_10.ext' hR
 have X15_1_3_12 := X15_1_3_10.ext' hR
 have X19_0_6_12 := X19_0_6_10.ext' hR
 have X19_1_6_12 := X19_1_6_10.ext' hR
 have O15_0_3_12 := O15_0_3_10.ext' hR
 have O15_1_3_12 := O15_1_3_10.ext' hR
 have O19_0_6_12 := O19_0_6_10.ext' hR
 have O19_1_6_12 := O19_1_6_10.ext' hR
 have s6_12 : get a12 6 = Value.bool (((twiceB (root (publics p (pw 0))) ra oa (((0 : Nat) : Int)) (signed (seedAt p 0) (linkOf ra oa)) (way (publics p (pw 0)) 0) (root (publics q (pw 0))) rb ob (((0 : Nat) : Int)) (signed (seedAt q 0) (linkOf rb ob)) (way (publics q (pw 0)) 0)) == ((decide (ra = rb)) && (!decide (oa = ob))))) := t6
 clear E10 N10 D10 s5_10 s9_10 s31_10 B3_10 B4_10 B5_10 B7_10 B8_10 X15_0_3_10 X15_1_3_10 X19_0_6_10 X19_1_6_10 O15_0_3_10 O15_1_3_10 O19_0_6_10 O19_1_6_10
 refine tail_nil ?_
 refine wp_ret ?_
 refine res_one (V := Value.bool (((twiceB (root (publics p (pw 0))) ra oa (((0 : Nat) : Int)) (signed (seedAt p 0) (linkOf ra oa)) (way (publics p (pw 0)) 0) (root (publics q (pw 0))) rb ob (((0 : Nat) : Int)) (signed (seedAt q 0) (linkOf rb ob)) (way (publics q (pw 0)) 0)) == ((decide (ra = rb)) && (!decide (oa = ob)))))) rfl D12 s6_12 ?_
 exact ⟨congrArg Value.bool (by rw [twiceB_said (keyCheck_sign (by decide) (by decide)) (keyCheck_sign (by decide) (by decide)) hc0]; simp), E12⟩

end Go.Proofs.YtmmghpbncejfiaaDoor
