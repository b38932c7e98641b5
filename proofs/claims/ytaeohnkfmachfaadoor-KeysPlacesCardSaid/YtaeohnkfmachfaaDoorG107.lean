/- The walks of functions of the program: printed. -/
import Derived.Test.YtaeohnkfmachfaaDoorKB
import Derived.Test.YtaeohnkfmachfaaDoorG70
import Derived.Test.YtaeohnkfmachfaaDoorG94
import Derived.Test.YtaeohnkfmachfaaDoorG95
import Derived.Test.YtaeohnkfmachfaaDoorG98
import Derived.Test.YtaeohnkfmachfaaDoorF0
set_option maxRecDepth 100000
namespace Go.Proofs.YtaeohnkfmachfaaDoor
open Go Go.RowKit Sk Sd
theorem awake06  (w0 : World) (hL : Laid w0) :
    Gives Tryd.prog 7 #[] w0 (Pr.ex (Value.bool true)) := by
 refine enter (N := 75) Tryd.func7 rfl rfl ?_
 intro a0 N0 D0 hA
 clear hA
 have E0 : Ext w0 w0 := Ext.refl w0
 refine wp_seq ?_
 refine Rl [] [(0, Pr.ex (Value.bool (false)))] 1 N0 D0 ?_ ?_
 refine Ac ?_ (Az _)
 exact Ap fun aq wq _ hO hR hT => does_assign (V := Value.bool (false)) rfl eR
 intro a1 wd1 N1 D1 hO hR hA hU
 obtain ⟨_, _⟩ := hA
 have E1 := E0.trans hR
 clear E0 N0 D0
 refine tail_nil ?_
 refine wp_seq ?_
 refine Rl [1] [(11, Pr.ex (Dg.val (dgA))), (1, Pr.box' wd1.heap.size 24 [w32 (Dg.zero).a, w32 (Dg.zero).b, w32 (Dg.zero).c, w32 (Dg.zero).d])] 2 N1 D1 ?_ ?_
 refine Ac ?_ (Ac ?_ (Az _))
 exact Ap fun aq wq _ hO hR hT => does_build (vs := #[(0, w32 (1)), (1, w32 (2)), (2, w32 (3)), (3, w32 (4))]) (V := Dg.val (dgA)) (parts4 rfl rfl rfl rfl) (by kernel_rfl) eR
 refine Ask.fresh rfl rfl ?_
 intro aq wq hNq hO hR hT
 exact does_alloc zero_24 (fun b w2 he hlo hb => ⟨he, ⟨b, rfl, Nat.le_trans hR.size' hlo, hb⟩, ⟨b, rfl, hlo, hb.lt⟩⟩)
 intro a2 wd2 N2 D2 hO hR hA hU
 obtain ⟨t11, t1, _⟩ := hA
 have E2 := E1.trans hR
 have s11_2 : get a2 11 = Dg.val (dgA) := t11
 obtain ⟨b1, s1_2, lo_b1, B1_2⟩ := t1
 have fr_b1 : w0.heap.size ≤ b1 := Nat.le_trans E1.size' lo_b1
 clear E1 N1 D1
 refine tail_none rfl rfl (does_storeD (o := 0) (n := 4) (cs' := [w32 (dgA).a, w32 (dgA).b, w32 (dgA).c, w32 (dgA).d]) (V := Dg.val (dgA)) s1_2 s11_2 B1_2 (nB rfl) rfl siz_24 rfl rfl (fun wd3 hX hz B1_3 => ?_))
 have E3 := E2.since hX (fun k e => e ▸ fr_b1)
 clear hX hz E2 B1_2
 refine tail_nil ?_
 refine wp_seq ?_
 refine Rl [2] [(12, Pr.ex (Dg.val (dgB))), (2, Pr.box' wd3.heap.size 24 [w32 (Dg.zero).a, w32 (Dg.zero).b, w32 (Dg.zero).c, w32 (Dg.zero).d])] 2 N2 D2 ?_ ?_
 refine Ac ?_ (Ac ?_ (Az _))
 exact Ap fun aq wq _ hO hR hT => does_build (vs := #[(0, w32 (5))]) (V := Dg.val (dgB)) (parts1 rfl) (by kernel_rfl) eR
 refine Ask.fresh rfl rfl ?_
 intro aq wq hNq hO hR hT
 exact does_alloc zero_24 (fun b w2 he hlo hb => ⟨he, ⟨b, rfl, Nat.le_trans hR.size' hlo, hb⟩, ⟨b, rfl, hlo, hb.lt⟩⟩)
 intro a4 wd4 N4 D4 hO hR hA hU
 obtain ⟨t12, t2, _⟩ := hA
 have E4 := E3.trans hR
 have s1_4 := oT hO s1_2 rfl
 have B1_4 := B1_3.ext' hR
 have s12_4 : get a4 12 = Dg.val (dgB) := t12
 obtain ⟨b2, s2_4, lo_b2, B2_4⟩ := t2
 have ne_b1_b2 := Hl B1_3 lo_b2
 have fr_b2 : w0.heap.size ≤ b2 := Nat.le_trans E3.size' lo_b2
 clear E3 N2 D2 s1_2 s11_2 B1_3
 refine tail_none rfl rfl (does_storeD (o := 0) (n := 4) (cs' := [w32 (dgB).a, w32 (dgB).b, w32 (dgB).c, w32 (dgB).d]) (V := Dg.val (dgB)) s2_4 s12_4 B2_4 (nB rfl) rfl siz_24 rfl rfl (fun wd5 hX hz B2_5 => ?_))
 have E5 := E4.since hX (fun k e => e ▸ fr_b2)
 have B1_5 := B1_4.ext hX ne_b1_b2
 clear hX hz E4 B1_4 B2_4
 refine tail_nil ?_
 refine wp_seq ?_
 refine Rl [3] [(14, Pr.ex (Dg.val (dgA))), (15, Pr.ex (Value.tuple #[Dg.val (root (publics (dgA) (pw 0))), i64 ((0 : Nat) : Int)])), (13, Pr.ex (Value.tuple #[Dg.val (root (publics (dgA) (pw 0))), i64 ((0 : Nat) : Int)])), (16, Pr.ex (Dg.val (root (publics (dgA) (pw 0))))), (17, Pr.ex (i64 ((0 : Nat) : Int))), (3, Pr.box' wd5.heap.size 24 [w32 (Dg.zero).a, w32 (Dg.zero).b, w32 (Dg.zero).c, w32 (Dg.zero).d])] 6 N4 D4 ?_ ?_
 refine Ac ?_ (Ac ?_ (Ac ?_ (Ac ?_ (Ac ?_ (Ac ?_ (Az _))))))
 exact Ap fun aq wq _ hO hR hT => does_loadD (o := 0) (n := 4) (mid := [w32 (dgA).a, w32 (dgA).b, w32 (dgA).c, w32 (dgA).d]) (oT hO s1_4 rfl) (B1_5.ext' hR) rfl rfl (nB rfl) row_24 rfl eR
 exact Ap fun aq wq _ hO hR hT => does_ret (vs := #[Dg.val (dgA), i64 ((0 : Nat) : Int)]) call_11 (args2 (hT 14 rfl rfl) rfl) rfl ((keyPub_k (dgA) 0 wq (hL.ext (E5.trans hR)) (by decide)).mono fun v w2 h => ⟨h.2, h.1⟩)
 exact Ap fun aq wq _ hO hR hT => does_move (V := Value.tuple #[Dg.val (root (publics (dgA) (pw 0))), i64 ((0 : Nat) : Int)]) (hT 15 rfl rfl) eR
 exact Ap fun aq wq _ hO hR hT => does_extract (V := Dg.val (root (publics (dgA) (pw 0)))) (hT 13 rfl rfl) rfl eR
 exact Ap fun aq wq _ hO hR hT => does_extract (V := i64 ((0 : Nat) : Int)) (hT 13 rfl rfl) rfl eR
 refine Ask.fresh rfl rfl ?_
 intro aq wq hNq hO hR hT
 exact does_alloc zero_24 (fun b w2 he hlo hb => ⟨he, ⟨b, rfl, Nat.le_trans hR.size' hlo, hb⟩, ⟨b, rfl, hlo, hb.lt⟩⟩)
 intro a6 wd6 N6 D6 hO hR hA hU
 obtain ⟨_, _, _, t16, t17, t3, _⟩ := hA
 have E6 := E5.trans hR
 have s1_6 := oT hO s1_4 rfl
 have s2_6 := oT hO s2_4 rfl
 have B1_6 := B1_5.ext' hR
 have B2_6 := B2_5.ext' hR
 have s16_6 : get a6 16 = Dg.val (root (publics (dgA) (pw 0))) := t16
 have s17_6 : get a6 17 = i64 ((0 : Nat) : Int) := t17
 obtain ⟨b3, s3_6, lo_b3, B3_6⟩ := t3
 have ne_b1_b3 := Hl B1_5 lo_b3
 have ne_b2_b3 := Hl B2_5 lo_b3
 have fr_b3 : w0.heap.size ≤ b3 := Nat.le_trans E5.size' lo_b3
 clear E5 N4 D4 s1_4 s2_4 s12_4 B1_5 B2_5
 refine tail_none rfl rfl (does_storeD (o := 0) (n := 4) (cs' := [w32 (root (publics (dgA) (pw 0))).a, w32 (root (publics (dgA) (pw 0))).b, w32 (root (publics (dgA) (pw 0))).c, w32 (root (publics (dgA) (pw 0))).d]) (V := Dg.val (root (publics (dgA) (pw 0)))) s3_6 s16_6 B3_6 (nB rfl) rfl siz_24 rfl rfl (fun wd7 hX hz B3_7 => ?_))
 have E7 := E6.since hX (fun k e => e ▸ fr_b3)
 have B1_7 := B1_6.ext hX ne_b1_b3
 have B2_7 := B2_6.ext hX ne_b2_b3
 clear hX hz E6 B1_6 B2_6 B3_6
 refine tail_put rfl rfl N6 D6 (by decide) (does_assign (V := i64 ((0 : Nat) : Int)) s17_6 (fun a8 N8 D8 hv hO => ?_))
 have s4_8 := hv
 have s1_8 := oT hO s1_6 rfl
 have s2_8 := oT hO s2_6 rfl
 have s3_8 := oT hO s3_6 rfl
 clear hO hv N6 D6 s1_6 s2_6 s3_6 s16_6 s17_6
 refine tail_nil ?_
 refine wp_seq ?_
 refine Rl [] [(19, Pr.ex (Dg.val (dgA))), (20, Pr.ex (Dg.val (dgB))), (21, Pr.t2 (Pr.ag2 (fun x y => Value.agg #[i64 ((0 : Nat) : Int), x, y]) (Pr.own' DG wd7.heap.size 24 (signed (seedAt (dgA) 0) (dgB))) (Pr.own' DG wd7.heap.size 24 (way (publics (dgA) (pw 0)) 0))) (Pr.ex (i64 ((0 : Nat) : Int)))), (18, Pr.t2 (Pr.ag2 (fun x y => Value.agg #[i64 ((0 : Nat) : Int), x, y]) (Pr.own' DG wd7.heap.size 24 (signed (seedAt (dgA) 0) (dgB))) (Pr.own' DG wd7.heap.size 24 (way (publics (dgA) (pw 0)) 0))) (Pr.ex (i64 ((0 : Nat) : Int)))), (22, Pr.ag2 (fun x y => Value.agg #[i64 ((0 : Nat) : Int), x, y]) (Pr.own' DG wd7.heap.size 24 (signed (seedAt (dgA) 0) (dgB))) (Pr.own' DG wd7.heap.size 24 (way (publics (dgA) (pw 0)) 0))), (23, Pr.ex (i64 ((0 : Nat) : Int)))] 6 N8 D8 ?_ ?_
 refine Ac ?_ (Ac ?_ (Ac ?_ (Ac ?_ (Ac ?_ (Ac ?_ (Az _))))))
 exact Ap fun aq wq _ hO hR hT => does_loadD (o := 0) (n := 4) (mid := [w32 (dgA).a, w32 (dgA).b, w32 (dgA).c, w32 (dgA).d]) (oT hO s1_8 rfl) (B1_7.ext' hR) rfl rfl (nB rfl) row_24 rfl eR
 exact Ap fun aq wq _ hO hR hT => does_loadD (o := 0) (n := 4) (mid := [w32 (dgB).a, w32 (dgB).b, w32 (dgB).c, w32 (dgB).d]) (oT hO s2_8 rfl) (B2_7.ext' hR) rfl rfl (nB rfl) row_24 rfl eR
 exact Ap fun aq wq _ hO hR hT => does_ret (vs := #[Dg.val (dgA), i64 ((0 : Nat) : Int), i64 ((0 : Nat) : Int), Dg.val (dgB)]) call_8 (args4 (hT 19 rfl rfl) rfl rfl (hT 20 rfl rfl)) rfl ((keySign_k (dgA) 0 0 (dgB) wq (hL.ext (E7.trans hR)) (by decide) (by decide)).mono fun v w2 h => ⟨h.2, by obtain ⟨x0, x1, hv, k0, k1⟩ := h.1; exact ⟨x0, x1, hv, (by obtain ⟨z0, z1, hz, kz0, kz1⟩ := k0; exact ⟨z0, z1, hz, OwnT.base kz0 hR.size', OwnT.base kz1 hR.size'⟩), k1⟩⟩)
 exact Ap fun aq wq _ hO hR hT => does_move rfl ⟨Ext.refl _, (hT 21 rfl rfl)⟩
 exact Ap fun aq wq _ hO hR hT => by
  obtain ⟨x0, x1, hv, k0, k1⟩ := (hT 18 rfl rfl)
  exact does_extract hv rfl ⟨Ext.refl _, k0⟩
 exact Ap fun aq wq _ hO hR hT => by
  obtain ⟨x0, x1, hv, k0, k1⟩ := (hT 18 rfl rfl)
  exact does_extract (V := i64 ((0 : Nat) : Int)) hv (by rw [show x1 = i64 ((0 : Nat) : Int) from k1]; rfl) ⟨Ext.refl _, rfl⟩
 intro a9 wd9 N9 D9 hO hR hA hU
 obtain ⟨_, _, _, _, t22, t23, _⟩ := hA
 have E9 := E7.trans hR
 have s1_9 := oT hO s1_8 rfl
 have s2_9 := oT hO s2_8 rfl
 have s3_9 := oT hO s3_8 rfl
 have s4_9 := oT hO s4_8 rfl
 have B1_9 := B1_7.ext' hR
 have B2_9 := B2_7.ext' hR
 have B3_9 := B3_7.ext' hR
 obtain ⟨x22_0_9, x22_1_9, s22_9, ky22_0_9, ky22_1_9⟩ := t22
 replace ky22_0_9 : OwnT DG wd7.heap.size 24 (signed (seedAt (dgA) 0) (dgB)) x22_0_9 wd9 := ky22_0_9
 have nbo_x22_0_9_b1 := Ob1 ky22_0_9 B1_7
 have nbo_x22_0_9_b2 := Ob1 ky22_0_9 B2_7
 have nbo_x22_0_9_b3 := Ob1 ky22_0_9 B3_7
 have X22_0_9_9 := ky22_0_9.sl.wide (Nat.zero_le _) (.inl rfl)
 have O22_0_9_9 := OwnT.base ky22_0_9 E7.size'
 replace ky22_1_9 : OwnT DG wd7.heap.size 24 (way (publics (dgA) (pw 0)) 0) x22_1_9 wd9 := ky22_1_9
 have nbo_x22_1_9_b1 := Ob1 ky22_1_9 B1_7
 have nbo_x22_1_9_b2 := Ob1 ky22_1_9 B2_7
 have nbo_x22_1_9_b3 := Ob1 ky22_1_9 B3_7
 have X22_1_9_9 := ky22_1_9.sl.wide (Nat.zero_le _) (.inl rfl)
 have O22_1_9_9 := OwnT.base ky22_1_9 E7.size'
 have s23_9 : get a9 23 = i64 ((0 : Nat) : Int) := t23
 clear E7 N8 D8 s1_8 s2_8 s3_8 s4_8 B1_7 B2_7 B3_7
 refine tail_put rfl rfl N9 D9 (by decide) (does_alloc zero_30 (fun b5 wd10 he lo_b5 B5_10 => fun a10 N10 D10 hv hO => ?_))
 have s5_10 := hv
 have E10 := E9.trans he
 have B1_10 := B1_9.ext' he
 have B2_10 := B2_9.ext' he
 have B3_10 := B3_9.ext' he
 have X22_0_9_10 := X22_0_9_9.ext' he
 have X22_1_9_10 := X22_1_9_9.ext' he
 have O22_0_9_10 := O22_0_9_9.ext' he
 have O22_1_9_10 := O22_1_9_9.ext' he
 have fr_b5 : w0.heap.size ≤ b5 := Nat.le_trans E9.size' lo_b5
 have ne_b1_b5 := Hl B1_9 lo_b5
 have ne_b2_b5 := Hl B2_9 lo_b5
 have ne_b3_b5 := Hl B3_9 lo_b5
 have nb_x22_0_9_b5 := SlT.old X22_0_9_9 lo_b5
 have nb_x22_1_9_b5 := SlT.old X22_1_9_9 lo_b5
 have nbo_x22_0_9_b5 := Ol O22_0_9_9 lo_b5
 have nbo_x22_1_9_b5 := Ol O22_1_9_9 lo_b5
 have s1_10 := oT hO s1_9 rfl
 have s2_10 := oT hO s2_9 rfl
 have s3_10 := oT hO s3_9 rfl
 have s4_10 := oT hO s4_9 rfl
 have s22_10 := oT hO s22_9 rfl
 have s23_10 := oT hO s23_9 rfl
 clear hO hv N9 D9 E9 B1_9 B2_9 B3_9 X22_0_9_9 X22_1_9_9 O22_0_9_9 O22_1_9_9 s1_9 s2_9 s3_9 s4_9 s22_9 s23_9
 refine tail_none rfl rfl (does_storeD (o := 0) (n := 3) (cs' := [i64 ((0 : Nat) : Int), x22_0_9, x22_1_9]) (V := Value.agg #[i64 ((0 : Nat) : Int), x22_0_9, x22_1_9]) s5_10 s22_10 B5_10 (nB rfl) rfl siz_30 (one_cons rfl (one_cons (SlT.one X22_0_9_10) (one_cons (SlT.one X22_1_9_10) one_nil))) rfl (fun wd11 hX hz B5_11 => ?_))
 have E11 := E10.since hX (fun k e => e ▸ fr_b5)
 have B1_11 := B1_10.ext hX ne_b1_b5
 have B2_11 := B2_10.ext hX ne_b2_b5
 have B3_11 := B3_10.ext hX ne_b3_b5
 have X22_0_9_11 := SlT.over X22_0_9_10 hX nb_x22_0_9_b5
 have X22_1_9_11 := SlT.over X22_1_9_10 hX nb_x22_1_9_b5
 have O22_0_9_11 := OwnT.ext O22_0_9_10 hX (fun k hk e => nbo_x22_0_9_b5 (e ▸ hk))
 have O22_1_9_11 := OwnT.ext O22_1_9_10 hX (fun k hk e => nbo_x22_1_9_b5 (e ▸ hk))
 clear hX hz E10 B1_10 B2_10 B3_10 B5_10 X22_0_9_10 X22_1_9_10 O22_0_9_10 O22_1_9_10
 refine tail_put rfl rfl N10 D10 (by decide) (does_assign (V := i64 ((0 : Nat) : Int)) s23_10 (fun a12 N12 D12 hv hO => ?_))
 have s6_12 := hv
 have s1_12 := oT hO s1_10 rfl
 have s2_12 := oT hO s2_10 rfl
 have s3_12 := oT hO s3_10 rfl
 have s4_12 := oT hO s4_10 rfl
 have s5_12 := oT hO s5_10 rfl
 clear hO hv N10 D10 s1_10 s2_10 s3_10 s4_10 s5_10 s22_10 s23_10
 refine tail_nil ?_
 refine wp_seq ?_
 refine Rl [7] [(25, Pr.ex (Dg.val (dgA))), (26, Pr.ex (Value.tuple #[Dg.val ((keyPub (dgA) (((5 : Nat) : Int))).1), i64 (((keyPub (dgA) (((5 : Nat) : Int))).2 : Nat) : Int)])), (24, Pr.ex (Value.tuple #[Dg.val ((keyPub (dgA) (((5 : Nat) : Int))).1), i64 (((keyPub (dgA) (((5 : Nat) : Int))).2 : Nat) : Int)])), (27, Pr.ex (Dg.val ((keyPub (dgA) (((5 : Nat) : Int))).1))), (28, Pr.ex (i64 (((keyPub (dgA) (((5 : Nat) : Int))).2 : Nat) : Int))), (7, Pr.box' wd11.heap.size 24 [w32 (Dg.zero).a, w32 (Dg.zero).b, w32 (Dg.zero).c, w32 (Dg.zero).d])] 6 N12 D12 ?_ ?_
 refine Ac ?_ (Ac ?_ (Ac ?_ (Ac ?_ (Ac ?_ (Ac ?_ (Az _))))))
 exact Ap fun aq wq _ hO hR hT => does_loadD (o := 0) (n := 4) (mid := [w32 (dgA).a, w32 (dgA).b, w32 (dgA).c, w32 (dgA).d]) (oT hO s1_12 rfl) (B1_11.ext' hR) rfl rfl (nB rfl) row_24 rfl eR
 exact Ap fun aq wq _ hO hR hT => does_ret (vs := #[Dg.val (dgA), i64 ((5 : Nat) : Int)]) call_11 (args2 (hT 25 rfl rfl) rfl) rfl ((keyPub_ (dgA) (((5 : Nat) : Int)) wq (hL.ext (E11.trans hR))).mono fun v w2 h => ⟨h.2, h.1⟩)
 exact Ap fun aq wq _ hO hR hT => does_move (V := Value.tuple #[Dg.val ((keyPub (dgA) (((5 : Nat) : Int))).1), i64 (((keyPub (dgA) (((5 : Nat) : Int))).2 : Nat) : Int)]) (hT 26 rfl rfl) eR
 exact Ap fun aq wq _ hO hR hT => does_extract (V := Dg.val ((keyPub (dgA) (((5 : Nat) : Int))).1)) (hT 24 rfl rfl) rfl eR
 exact Ap fun aq wq _ hO hR hT => does_extract (V := i64 (((keyPub (dgA) (((5 : Nat) : Int))).2 : Nat) : Int)) (hT 24 rfl rfl) rfl eR
 refine Ask.fresh rfl rfl ?_
 intro aq wq hNq hO hR hT
 exact does_alloc zero_24 (fun b w2 he hlo hb => ⟨he, ⟨b, rfl, Nat.le_trans hR.size' hlo, hb⟩, ⟨b, rfl, hlo, hb.lt⟩⟩)
 intro a13 wd13 N13 D13 hO hR hA hU
 obtain ⟨_, _, _, t27, t28, t7, _⟩ := hA
 have E13 := E11.trans hR
 have s1_13 := oT hO s1_12 rfl
 have s2_13 := oT hO s2_12 rfl
 have s3_13 := oT hO s3_12 rfl
 have s4_13 := oT hO s4_12 rfl
 have s5_13 := oT hO s5_12 rfl
 have s6_13 := oT hO s6_12 rfl
 have B1_13 := B1_11.ext' hR
 have B2_13 := B2_11.ext' hR
 have B3_13 := B3_11.ext' hR
 have B5_13 := B5_11.ext' hR
 have X22_0_9_13 := X22_0_9_11.ext' hR
 have X22_1_9_13 := X22_1_9_11.ext' hR
 have O22_0_9_13 := O22_0_9_11.ext' hR
 have O22_1_9_13 := O22_1_9_11.ext' hR
 have s27_13 : get a13 27 = Dg.val ((keyPub (dgA) (((5 : Nat) : Int))).1) := t27
 have s28_13 : get a13 28 = i64 (((keyPub (dgA) (((5 : Nat) : Int))).2 : Nat) : Int) := t28
 obtain ⟨b7, s7_13, lo_b7, B7_13⟩ := t7
 have ne_b1_b7 := Hl B1_11 lo_b7
 have ne_b2_b7 := Hl B2_11 lo_b7
 have ne_b3_b7 := Hl B3_11 lo_b7
 have ne_b5_b7 := Hl B5_11 lo_b7
 have nb_x22_0_9_b7 := SlT.old X22_0_9_11 lo_b7
 have nb_x22_1_9_b7 := SlT.old X22_1_9_11 lo_b7
 have nbo_x22_0_9_b7 := Ol O22_0_9_11 lo_b7
 have nbo_x22_1_9_b7 := Ol O22_1_9_11 lo_b7
 have fr_b7 : w0.heap.size ≤ b7 := Nat.le_trans E11.size' lo_b7
 clear E11 N12 D12 s1_12 s2_12 s3_12 s4_12 s5_12 s6_12 B1_11 B2_11 B3_11 B5_11 X22_0_9_11 X22_1_9_11 O22_0_9_11 O22_1_9_11
 refine tail_none rfl rfl (does_storeD (o := 0) (n := 4) (cs' := [w32 ((keyPub (dgA) (((5 : Nat) : Int))).1).a, w32 ((keyPub (dgA) (((5 : Nat) : Int))).1).b, w32 ((keyPub (dgA) (((5 : Nat) : Int))).1).c, w32 ((keyPub (dgA) (((5 : Nat) : Int))).1).d]) (V := Dg.val ((keyPub (dgA) (((5 : Nat) : Int))).1)) s7_13 s27_13 B7_13 (nB rfl) rfl siz_24 rfl rfl (fun wd14 hX hz B7_14 => ?_))
 have E14 := E13.since hX (fun k e => e ▸ fr_b7)
 have B1_14 := B1_13.ext hX ne_b1_b7
 have B2_14 := B2_13.ext hX ne_b2_b7
 have B3_14 := B3_13.ext hX ne_b3_b7
 have B5_14 := B5_13.ext hX ne_b5_b7
 have X22_0_9_14 := SlT.over X22_0_9_13 hX nb_x22_0_9_b7
 have X22_1_9_14 := SlT.over X22_1_9_13 hX nb_x22_1_9_b7
 have O22_0_9_14 := OwnT.ext O22_0_9_13 hX (fun k hk e => nbo_x22_0_9_b7 (e ▸ hk))
 have O22_1_9_14 := OwnT.ext O22_1_9_13 hX (fun k hk e => nbo_x22_1_9_b7 (e ▸ hk))
 clear hX hz E13 B1_13 B2_13 B3_13 B5_13 B7_13 X22_0_9_13 X22_1_9_13 O22_0_9_13 O22_1_9_13
 refine tail_put rfl rfl N13 D13 (by decide) (does_assign (V := i64 (((keyPub (dgA) (((5 : Nat) : Int))).2 : Nat) : Int)) s28_13 (fun a15 N15 D15 hv hO => ?_))
 have s8_15 := hv
 have s1_15 := oT hO s1_13 rfl
 have s2_15 := oT hO s2_13 rfl
 have s3_15 := oT hO s3_13 rfl
 have s4_15 := oT hO s4_13 rfl
 have s5_15 := oT hO s5_13 rfl
 have s6_15 := oT hO s6_13 rfl
 clear hO hv N13 D13 s1_13 s2_13 s3_13 s4_13 s5_13 s6_13 s7_13 s27_13 s28_13
 refine tail_nil ?_
 refine wp_seq ?_
 refine Rl [] [(30, Pr.ex (Dg.val (dgA))), (31, Pr.ex (Dg.val (dgB))), (32, Pr.t2 (Pr.ag2 (fun x y => Value.agg #[i64 ((keySign (dgA) (((0 : Nat) : Int)) (((1 : Nat) : Int)) (dgB)).1), x, y]) (Pr.own' DG wd14.heap.size 24 ((keySign (dgA) (((0 : Nat) : Int)) (((1 : Nat) : Int)) (dgB)).2.1)) (Pr.own' DG wd14.heap.size 24 ((keySign (dgA) (((0 : Nat) : Int)) (((1 : Nat) : Int)) (dgB)).2.2.1))) (Pr.ex (i64 (((keySign (dgA) (((0 : Nat) : Int)) (((1 : Nat) : Int)) (dgB)).2.2.2 : Nat) : Int)))), (29, Pr.t2 (Pr.ag2 (fun x y => Value.agg #[i64 ((keySign (dgA) (((0 : Nat) : Int)) (((1 : Nat) : Int)) (dgB)).1), x, y]) (Pr.own' DG wd14.heap.size 24 ((keySign (dgA) (((0 : Nat) : Int)) (((1 : Nat) : Int)) (dgB)).2.1)) (Pr.own' DG wd14.heap.size 24 ((keySign (dgA) (((0 : Nat) : Int)) (((1 : Nat) : Int)) (dgB)).2.2.1))) (Pr.ex (i64 (((keySign (dgA) (((0 : Nat) : Int)) (((1 : Nat) : Int)) (dgB)).2.2.2 : Nat) : Int)))), (33, Pr.ag2 (fun x y => Value.agg #[i64 ((keySign (dgA) (((0 : Nat) : Int)) (((1 : Nat) : Int)) (dgB)).1), x, y]) (Pr.own' DG wd14.heap.size 24 ((keySign (dgA) (((0 : Nat) : Int)) (((1 : Nat) : Int)) (dgB)).2.1)) (Pr.own' DG wd14.heap.size 24 ((keySign (dgA) (((0 : Nat) : Int)) (((1 : Nat) : Int)) (dgB)).2.2.1))), (34, Pr.ex (i64 (((keySign (dgA) (((0 : Nat) : Int)) (((1 : Nat) : Int)) (dgB)).2.2.2 : Nat) : Int)))] 6 N15 D15 ?_ ?_
 refine Ac ?_ (Ac ?_ (Ac ?_ (Ac ?_ (Ac ?_ (Ac ?_ (Az _))))))
 exact Ap fun aq wq _ hO hR hT => does_loadD (o := 0) (n := 4) (mid := [w32 (dgA).a, w32 (dgA).b, w32 (dgA).c, w32 (dgA).d]) (oT hO s1_15 rfl) (B1_14.ext' hR) rfl rfl (nB rfl) row_24 rfl eR
 exact Ap fun aq wq _ hO hR hT => does_loadD (o := 0) (n := 4) (mid := [w32 (dgB).a, w32 (dgB).b, w32 (dgB).c, w32 (dgB).d]) (oT hO s2_15 rfl) (B2_14.ext' hR) rfl rfl (nB rfl) row_24 rfl eR
 exact Ap fun aq wq _ hO hR hT => does_ret (vs := #[Dg.val (dgA), i64 ((0 : Nat) : Int), i64 ((1 : Nat) : Int), Dg.val (dgB)]) call_8 (args4 (hT 30 rfl rfl) rfl rfl (hT 31 rfl rfl)) rfl ((keySign_ (dgA) (((0 : Nat) : Int)) (((1 : Nat) : Int)) (dgB) wq (hL.ext (E14.trans hR))).mono fun v w2 h => ⟨h.2, by obtain ⟨x0, x1, hv, k0, k1⟩ := h.1; exact ⟨x0, x1, hv, (by obtain ⟨z0, z1, hz, kz0, kz1⟩ := k0; exact ⟨z0, z1, hz, OwnT.base kz0 hR.size', OwnT.base kz1 hR.size'⟩), k1⟩⟩)
 exact Ap fun aq wq _ hO hR hT => does_move rfl ⟨Ext.refl _, (hT 32 rfl rfl)⟩
 exact Ap fun aq wq _ hO hR hT => by
  obtain ⟨x0, x1, hv, k0, k1⟩ := (hT 29 rfl rfl)
  exact does_extract hv rfl ⟨Ext.refl _, k0⟩
 exact Ap fun aq wq _ hO hR hT => by
  obtain ⟨x0, x1, hv, k0, k1⟩ := (hT 29 rfl rfl)
  exact does_extract (V := i64 (((keySign (dgA) (((0 : Nat) : Int)) (((1 : Nat) : Int)) (dgB)).2.2.2 : Nat) : Int)) hv (by rw [show x1 = i64 (((keySign (dgA) (((0 : Nat) : Int)) (((1 : Nat) : Int)) (dgB)).2.2.2 : Nat) : Int) from k1]; rfl) ⟨Ext.refl _, rfl⟩
 intro a16 wd16 N16 D16 hO hR hA hU
 obtain ⟨_, _, _, _, t33, t34, _⟩ := hA
 have E16 := E14.trans hR
 have s1_16 := oT hO s1_15 rfl
 have s2_16 := oT hO s2_15 rfl
 have s3_16 := oT hO s3_15 rfl
 have s4_16 := oT hO s4_15 rfl
 have s5_16 := oT hO s5_15 rfl
 have s6_16 := oT hO s6_15 rfl
 have s8_16 := oT hO s8_15 rfl
 have B1_16 := B1_14.ext' hR
 have B2_16 := B2_14.ext' hR
 have B3_16 := B3_14.ext' hR
 have B5_16 := B5_14.ext' hR
 have B7_16 := B7_14.ext' hR
 have X22_0_9_16 := X22_0_9_14.ext' hR
 have X22_1_9_16 := X22_1_9_14.ext' hR
 have O22_0_9_16 := O22_0_9_14.ext' hR
 have O22_1_9_16 := O22_1_9_14.ext' hR
 obtain ⟨x33_0_16, x33_1_16, s33_16, ky33_0_16, ky33_1_16⟩ := t33
 replace ky33_0_16 : OwnT DG wd14.heap.size 24 ((keySign (dgA) (((0 : Nat) : Int)) (((1 : Nat) : Int)) (dgB)).2.1) x33_0_16 wd16 := ky33_0_16
 have nbo_x33_0_16_b1 := Ob1 ky33_0_16 B1_14
 have nbo_x33_0_16_b2 := Ob1 ky33_0_16 B2_14
 have nbo_x33_0_16_b3 := Ob1 ky33_0_16 B3_14
 have nbo_x33_0_16_b5 := Ob1 ky33_0_16 B5_14
 have nbo_x33_0_16_b7 := Ob1 ky33_0_16 B7_14
 have no_x33_0_16_x22_0_9 := Oo ky33_0_16 O22_0_9_14
 have no_x33_0_16_x22_1_9 := Oo ky33_0_16 O22_1_9_14
 have X33_0_16_16 := ky33_0_16.sl.wide (Nat.zero_le _) (.inl rfl)
 have O33_0_16_16 := OwnT.base ky33_0_16 E14.size'
 replace ky33_1_16 : OwnT DG wd14.heap.size 24 ((keySign (dgA) (((0 : Nat) : Int)) (((1 : Nat) : Int)) (dgB)).2.2.1) x33_1_16 wd16 := ky33_1_16
 have nbo_x33_1_16_b1 := Ob1 ky33_1_16 B1_14
 have nbo_x33_1_16_b2 := Ob1 ky33_1_16 B2_14
 have nbo_x33_1_16_b3 := Ob1 ky33_1_16 B3_14
 have nbo_x33_1_16_b5 := Ob1 ky33_1_16 B5_14
 have nbo_x33_1_16_b7 := Ob1 ky33_1_16 B7_14
 have no_x33_1_16_x22_0_9 := Oo ky33_1_16 O22_0_9_14
 have no_x33_1_16_x22_1_9 := Oo ky33_1_16 O22_1_9_14
 have X33_1_16_16 := ky33_1_16.sl.wide (Nat.zero_le _) (.inl rfl)
 have O33_1_16_16 := OwnT.base ky33_1_16 E14.size'
 have s34_16 : get a16 34 = i64 (((keySign (dgA) (((0 : Nat) : Int)) (((1 : Nat) : Int)) (dgB)).2.2.2 : Nat) : Int) := t34
 clear E14 N15 D15 s1_15 s2_15 s3_15 s4_15 s5_15 s6_15 s8_15 B1_14 B2_14 B3_14 B5_14 B7_14 X22_0_9_14 X22_1_9_14 O22_0_9_14 O22_1_9_14
 refine tail_put rfl rfl N16 D16 (by decide) (does_alloc zero_30 (fun b9 wd17 he lo_b9 B9_17 => fun a17 N17 D17 hv hO => ?_))
 have s9_17 := hv
 have E17 := E16.trans he
 have B1_17 := B1_16.ext' he
 have B2_17 := B2_16.ext' he
 have B3_17 := B3_16.ext' he
 have B5_17 := B5_16.ext' he
 have B7_17 := B7_16.ext' he
 have X22_0_9_17 := X22_0_9_16.ext' he
 have X22_1_9_17 := X22_1_9_16.ext' he
 have X33_0_16_17 := X33_0_16_16.ext' he
 have X33_1_16_17 := X33_1_16_16.ext' he
 have O22_0_9_17 := O22_0_9_16.ext' he
 have O22_1_9_17 := O22_1_9_16.ext' he
 have O33_0_16_17 := O33_0_16_16.ext' he
 have O33_1_16_17 := O33_1_16_16.ext' he
 have fr_b9 : w0.heap.size ≤ b9 := Nat.le_trans E16.size' lo_b9
 have ne_b1_b9 := Hl B1_16 lo_b9
 have ne_b2_b9 := Hl B2_16 lo_b9
 have ne_b3_b9 := Hl B3_16 lo_b9
 have ne_b5_b9 := Hl B5_16 lo_b9
 have ne_b7_b9 := Hl B7_16 lo_b9
 have nb_x22_0_9_b9 := SlT.old X22_0_9_16 lo_b9
 have nb_x22_1_9_b9 := SlT.old X22_1_9_16 lo_b9
 have nb_x33_0_16_b9 := SlT.old X33_0_16_16 lo_b9
 have nb_x33_1_16_b9 := SlT.old X33_1_16_16 lo_b9
 have nbo_x22_0_9_b9 := Ol O22_0_9_16 lo_b9
 have nbo_x22_1_9_b9 := Ol O22_1_9_16 lo_b9
 have nbo_x33_0_16_b9 := Ol O33_0_16_16 lo_b9
 have nbo_x33_1_16_b9 := Ol O33_1_16_16 lo_b9
 have s1_17 := oT hO s1_16 rfl
 have s2_17 := oT hO s2_16 rfl
 have s3_17 := oT hO s3_16 rfl
 have s4_17 := oT hO s4_16 rfl
 have s5_17 := oT hO s5_16 rfl
 have s6_17 := oT hO s6_16 rfl
 have s8_17 := oT hO s8_16 rfl
 have s33_17 := oT hO s33_16 rfl
 have s34_17 := oT hO s34_16 rfl
 clear hO hv N16 D16 E16 B1_16 B2_16 B3_16 B5_16 B7_16 X22_0_9_16 X22_1_9_16 X33_0_16_16 X33_1_16_16 O22_0_9_16 O22_1_9_16 O33_0_16_16 O33_1_16_16 s1_16 s2_16 s3_16 s4_16 s5_16 s6_16 s8_16 s33_16 s34_16
 refine tail_none rfl rfl (does_storeD (o := 0) (n := 3) (cs' := [i64 ((keySign (dgA) (((0 : Nat) : Int)) (((1 : Nat) : Int)) (dgB)).1), x33_0_16, x33_1_16]) (V := Value.agg #[i64 ((keySign (dgA) (((0 : Nat) : Int)) (((1 : Nat) : Int)) (dgB)).1), x33_0_16, x33_1_16]) s9_17 s33_17 B9_17 (nB rfl) rfl siz_30 (one_cons rfl (one_cons (SlT.one X33_0_16_17) (one_cons (SlT.one X33_1_16_17) one_nil))) rfl (fun wd18 hX hz B9_18 => ?_))
 have E18 := E17.since hX (fun k e => e ▸ fr_b9)
 have B1_18 := B1_17.ext hX ne_b1_b9
 have B2_18 := B2_17.ext hX ne_b2_b9
 have B3_18 := B3_17.ext hX ne_b3_b9
 have B5_18 := B5_17.ext hX ne_b5_b9
 have B7_18 := B7_17.ext hX ne_b7_b9
 have X22_0_9_18 := SlT.over X22_0_9_17 hX nb_x22_0_9_b9
 have X22_1_9_18 := SlT.over X22_1_9_17 hX nb_x22_1_9_b9
 have X33_0_16_18 := SlT.over X33_0_16_17 hX nb_x33_0_16_b9
 have X33_1_16_18 := SlT.over X33_1_16_17 hX nb_x33_1_16_b9
 have O22_0_9_18 := OwnT.ext O22_0_9_17 hX (fun k hk e => nbo_x22_0_9_b9 (e ▸ hk))
 have O22_1_9_18 := OwnT.ext O22_1_9_17 hX (fun k hk e => nbo_x22_1_9_b9 (e ▸ hk))
 have O33_0_16_18 := OwnT.ext O33_0_16_17 hX (fun k hk e => nbo_x33_0_16_b9 (e ▸ hk))
 have O33_1_16_18 := OwnT.ext O33_1_16_17 hX (fun k hk e => nbo_x33_1_16_b9 (e ▸ hk))
 clear hX hz E17 B1_17 B2_17 B3_17 B5_17 B7_17 B9_17 X22_0_9_17 X22_1_9_17 X33_0_16_17 X33_1_16_17 O22_0_9_17 O22_1_9_17 O33_0_16_17 O33_1_16_17
 refine tail_put rfl rfl N17 D17 (by decide) (does_assign (V := i64 (((keySign (dgA) (((0 : Nat) : Int)) (((1 : Nat) : Int)) (dgB)).2.2.2 : Nat) : Int)) s34_17 (fun a19 N19 D19 hv hO => ?_))
 have s10_19 := hv
 have s1_19 := oT hO s1_17 rfl
 have s2_19 := oT hO s2_17 rfl
 have s3_19 := oT hO s3_17 rfl
 have s4_19 := oT hO s4_17 rfl
 have s5_19 := oT hO s5_17 rfl
 have s6_19 := oT hO s6_17 rfl
 have s8_19 := oT hO s8_17 rfl
 clear hO hv N17 D17 s1_17 s2_17 s3_17 s4_17 s5_17 s6_17 s8_17 s9_17 s33_17 s34_17
 refine tail_nil ?_
 refine wp_seq ?_
 refine Ra [] [(35, Pr.ex (i64 ((0 : Nat) : Int))), (36, Pr.ex (Value.bool (true))), (37, Pr.ex (Value.bool (true))), (38, Pr.ifb (true) (Pr.ex (i64 ((0 : Nat) : Int)))), (39, Pr.ifb (true) (Pr.ex (Value.bool (true)))), (40, Pr.ex (Value.bool (true && true))), (41, Pr.ex (Value.bool (true && true))), (42, Pr.ifb (true && true) (Pr.ex (Value.pointer (some ⟨b5, 2, none⟩)))), (43, Pr.ifb (true && true) (Pr.ex (x22_1_9))), (44, Pr.ifb (true && true) (Pr.ex (i64 (((way (publics (dgA) (pw 0)) 0).length : Nat) : Int)))), (45, Pr.ifb (true && true) (Pr.ex (Value.bool (decide ((((way (publics (dgA) (pw 0)) 0).length : Nat) : Int) = ((0 : Nat) : Int)))))), (46, Pr.ex (Value.bool ((true && true) && (decide ((((way (publics (dgA) (pw 0)) 0).length : Nat) : Int) = ((0 : Nat) : Int)))))), (47, Pr.ex (Value.bool ((true && true) && (decide ((((way (publics (dgA) (pw 0)) 0).length : Nat) : Int) = ((0 : Nat) : Int)))))), (48, Pr.ifb ((true && true) && (decide ((((way (publics (dgA) (pw 0)) 0).length : Nat) : Int) = ((0 : Nat) : Int)))) (Pr.ex (Dg.val (root (publics (dgA) (pw 0)))))), (49, Pr.ifb ((true && true) && (decide ((((way (publics (dgA) (pw 0)) 0).length : Nat) : Int) = ((0 : Nat) : Int)))) (Pr.ex (Dg.val (dgB)))), (50, Pr.ifb ((true && true) && (decide ((((way (publics (dgA) (pw 0)) 0).length : Nat) : Int) = ((0 : Nat) : Int)))) (Pr.ex (Value.agg #[i64 ((0 : Nat) : Int), x22_0_9, x22_1_9]))), (51, Pr.ifb ((true && true) && (decide ((((way (publics (dgA) (pw 0)) 0).length : Nat) : Int) = ((0 : Nat) : Int)))) (Pr.ex (Value.bool (keyCheck (root (publics (dgA) (pw 0))) (dgB) (((0 : Nat) : Int)) (signed (seedAt (dgA) 0) (dgB)) (way (publics (dgA) (pw 0)) 0))))), (52, Pr.ex (Value.bool (((true && true) && (decide ((((way (publics (dgA) (pw 0)) 0).length : Nat) : Int) = ((0 : Nat) : Int)))) && (keyCheck (root (publics (dgA) (pw 0))) (dgB) (((0 : Nat) : Int)) (signed (seedAt (dgA) 0) (dgB)) (way (publics (dgA) (pw 0)) 0))))), (53, Pr.ex (Value.bool (((true && true) && (decide ((((way (publics (dgA) (pw 0)) 0).length : Nat) : Int) = ((0 : Nat) : Int)))) && (keyCheck (root (publics (dgA) (pw 0))) (dgB) (((0 : Nat) : Int)) (signed (seedAt (dgA) 0) (dgB)) (way (publics (dgA) (pw 0)) 0))))), (54, Pr.ifb (((true && true) && (decide ((((way (publics (dgA) (pw 0)) 0).length : Nat) : Int) = ((0 : Nat) : Int)))) && (keyCheck (root (publics (dgA) (pw 0))) (dgB) (((0 : Nat) : Int)) (signed (seedAt (dgA) 0) (dgB)) (way (publics (dgA) (pw 0)) 0))) (Pr.ex (Dg.val (dgA)))), (55, Pr.ifb (((true && true) && (decide ((((way (publics (dgA) (pw 0)) 0).length : Nat) : Int) = ((0 : Nat) : Int)))) && (keyCheck (root (publics (dgA) (pw 0))) (dgB) (((0 : Nat) : Int)) (signed (seedAt (dgA) 0) (dgB)) (way (publics (dgA) (pw 0)) 0))) (Pr.ex (Dg.val (dgB)))), (56, Pr.ifb (((true && true) && (decide ((((way (publics (dgA) (pw 0)) 0).length : Nat) : Int) = ((0 : Nat) : Int)))) && (keyCheck (root (publics (dgA) (pw 0))) (dgB) (((0 : Nat) : Int)) (signed (seedAt (dgA) 0) (dgB)) (way (publics (dgA) (pw 0)) 0))) (Pr.ex (Value.agg #[i64 ((0 : Nat) : Int), x22_0_9, x22_1_9]))), (57, Pr.ifb (((true && true) && (decide ((((way (publics (dgA) (pw 0)) 0).length : Nat) : Int) = ((0 : Nat) : Int)))) && (keyCheck (root (publics (dgA) (pw 0))) (dgB) (((0 : Nat) : Int)) (signed (seedAt (dgA) 0) (dgB)) (way (publics (dgA) (pw 0)) 0))) (Pr.ex (Value.bool (keyCheck (dgA) (dgB) (((0 : Nat) : Int)) (signed (seedAt (dgA) 0) (dgB)) (way (publics (dgA) (pw 0)) 0))))), (58, Pr.ifb (((true && true) && (decide ((((way (publics (dgA) (pw 0)) 0).length : Nat) : Int) = ((0 : Nat) : Int)))) && (keyCheck (root (publics (dgA) (pw 0))) (dgB) (((0 : Nat) : Int)) (signed (seedAt (dgA) 0) (dgB)) (way (publics (dgA) (pw 0)) 0))) (Pr.ex (Value.bool (!(keyCheck (dgA) (dgB) (((0 : Nat) : Int)) (signed (seedAt (dgA) 0) (dgB)) (way (publics (dgA) (pw 0)) 0)))))), (59, Pr.ex (Value.bool ((((true && true) && (decide ((((way (publics (dgA) (pw 0)) 0).length : Nat) : Int) = ((0 : Nat) : Int)))) && (keyCheck (root (publics (dgA) (pw 0))) (dgB) (((0 : Nat) : Int)) (signed (seedAt (dgA) 0) (dgB)) (way (publics (dgA) (pw 0)) 0))) && (!(keyCheck (dgA) (dgB) (((0 : Nat) : Int)) (signed (seedAt (dgA) 0) (dgB)) (way (publics (dgA) (pw 0)) 0)))))), (60, Pr.ex (Value.bool ((((true && true) && (decide ((((way (publics (dgA) (pw 0)) 0).length : Nat) : Int) = ((0 : Nat) : Int)))) && (keyCheck (root (publics (dgA) (pw 0))) (dgB) (((0 : Nat) : Int)) (signed (seedAt (dgA) 0) (dgB)) (way (publics (dgA) (pw 0)) 0))) && (!(keyCheck (dgA) (dgB) (((0 : Nat) : Int)) (signed (seedAt (dgA) 0) (dgB)) (way (publics (dgA) (pw 0)) 0)))))), (61, Pr.ifb ((((true && true) && (decide ((((way (publics (dgA) (pw 0)) 0).length : Nat) : Int) = ((0 : Nat) : Int)))) && (keyCheck (root (publics (dgA) (pw 0))) (dgB) (((0 : Nat) : Int)) (signed (seedAt (dgA) 0) (dgB)) (way (publics (dgA) (pw 0)) 0))) && (!(keyCheck (dgA) (dgB) (((0 : Nat) : Int)) (signed (seedAt (dgA) 0) (dgB)) (way (publics (dgA) (pw 0)) 0)))) (Pr.ex (i64 (((keyPub (dgA) (((5 : Nat) : Int))).2 : Nat) : Int)))), (62, Pr.ifb ((((true && true) && (decide ((((way (publics (dgA) (pw 0)) 0).length : Nat) : Int) = ((0 : Nat) : Int)))) && (keyCheck (root (publics (dgA) (pw 0))) (dgB) (((0 : Nat) : Int)) (signed (seedAt (dgA) 0) (dgB)) (way (publics (dgA) (pw 0)) 0))) && (!(keyCheck (dgA) (dgB) (((0 : Nat) : Int)) (signed (seedAt (dgA) 0) (dgB)) (way (publics (dgA) (pw 0)) 0)))) (Pr.ex (Value.bool (decide ((((keyPub (dgA) (((5 : Nat) : Int))).2 : Nat) : Int) = ((2 : Nat) : Int)))))), (63, Pr.ex (Value.bool (((((true && true) && (decide ((((way (publics (dgA) (pw 0)) 0).length : Nat) : Int) = ((0 : Nat) : Int)))) && (keyCheck (root (publics (dgA) (pw 0))) (dgB) (((0 : Nat) : Int)) (signed (seedAt (dgA) 0) (dgB)) (way (publics (dgA) (pw 0)) 0))) && (!(keyCheck (dgA) (dgB) (((0 : Nat) : Int)) (signed (seedAt (dgA) 0) (dgB)) (way (publics (dgA) (pw 0)) 0)))) && (decide ((((keyPub (dgA) (((5 : Nat) : Int))).2 : Nat) : Int) = ((2 : Nat) : Int)))))), (64, Pr.ex (Value.bool (((((true && true) && (decide ((((way (publics (dgA) (pw 0)) 0).length : Nat) : Int) = ((0 : Nat) : Int)))) && (keyCheck (root (publics (dgA) (pw 0))) (dgB) (((0 : Nat) : Int)) (signed (seedAt (dgA) 0) (dgB)) (way (publics (dgA) (pw 0)) 0))) && (!(keyCheck (dgA) (dgB) (((0 : Nat) : Int)) (signed (seedAt (dgA) 0) (dgB)) (way (publics (dgA) (pw 0)) 0)))) && (decide ((((keyPub (dgA) (((5 : Nat) : Int))).2 : Nat) : Int) = ((2 : Nat) : Int)))))), (65, Pr.ifb (((((true && true) && (decide ((((way (publics (dgA) (pw 0)) 0).length : Nat) : Int) = ((0 : Nat) : Int)))) && (keyCheck (root (publics (dgA) (pw 0))) (dgB) (((0 : Nat) : Int)) (signed (seedAt (dgA) 0) (dgB)) (way (publics (dgA) (pw 0)) 0))) && (!(keyCheck (dgA) (dgB) (((0 : Nat) : Int)) (signed (seedAt (dgA) 0) (dgB)) (way (publics (dgA) (pw 0)) 0)))) && (decide ((((keyPub (dgA) (((5 : Nat) : Int))).2 : Nat) : Int) = ((2 : Nat) : Int)))) (Pr.ex (i64 (((keySign (dgA) (((0 : Nat) : Int)) (((1 : Nat) : Int)) (dgB)).2.2.2 : Nat) : Int)))), (66, Pr.ifb (((((true && true) && (decide ((((way (publics (dgA) (pw 0)) 0).length : Nat) : Int) = ((0 : Nat) : Int)))) && (keyCheck (root (publics (dgA) (pw 0))) (dgB) (((0 : Nat) : Int)) (signed (seedAt (dgA) 0) (dgB)) (way (publics (dgA) (pw 0)) 0))) && (!(keyCheck (dgA) (dgB) (((0 : Nat) : Int)) (signed (seedAt (dgA) 0) (dgB)) (way (publics (dgA) (pw 0)) 0)))) && (decide ((((keyPub (dgA) (((5 : Nat) : Int))).2 : Nat) : Int) = ((2 : Nat) : Int)))) (Pr.ex (Value.bool (decide ((((keySign (dgA) (((0 : Nat) : Int)) (((1 : Nat) : Int)) (dgB)).2.2.2 : Nat) : Int) = ((1 : Nat) : Int)))))), (67, Pr.ex (Value.bool ((((((true && true) && (decide ((((way (publics (dgA) (pw 0)) 0).length : Nat) : Int) = ((0 : Nat) : Int)))) && (keyCheck (root (publics (dgA) (pw 0))) (dgB) (((0 : Nat) : Int)) (signed (seedAt (dgA) 0) (dgB)) (way (publics (dgA) (pw 0)) 0))) && (!(keyCheck (dgA) (dgB) (((0 : Nat) : Int)) (signed (seedAt (dgA) 0) (dgB)) (way (publics (dgA) (pw 0)) 0)))) && (decide ((((keyPub (dgA) (((5 : Nat) : Int))).2 : Nat) : Int) = ((2 : Nat) : Int)))) && (decide ((((keySign (dgA) (((0 : Nat) : Int)) (((1 : Nat) : Int)) (dgB)).2.2.2 : Nat) : Int) = ((1 : Nat) : Int)))))), (68, Pr.ex (Value.bool ((((((true && true) && (decide ((((way (publics (dgA) (pw 0)) 0).length : Nat) : Int) = ((0 : Nat) : Int)))) && (keyCheck (root (publics (dgA) (pw 0))) (dgB) (((0 : Nat) : Int)) (signed (seedAt (dgA) 0) (dgB)) (way (publics (dgA) (pw 0)) 0))) && (!(keyCheck (dgA) (dgB) (((0 : Nat) : Int)) (signed (seedAt (dgA) 0) (dgB)) (way (publics (dgA) (pw 0)) 0)))) && (decide ((((keyPub (dgA) (((5 : Nat) : Int))).2 : Nat) : Int) = ((2 : Nat) : Int)))) && (decide ((((keySign (dgA) (((0 : Nat) : Int)) (((1 : Nat) : Int)) (dgB)).2.2.2 : Nat) : Int) = ((1 : Nat) : Int)))))), (69, Pr.ifb ((((((true && true) && (decide ((((way (publics (dgA) (pw 0)) 0).length : Nat) : Int) = ((0 : Nat) : Int)))) && (keyCheck (root (publics (dgA) (pw 0))) (dgB) (((0 : Nat) : Int)) (signed (seedAt (dgA) 0) (dgB)) (way (publics (dgA) (pw 0)) 0))) && (!(keyCheck (dgA) (dgB) (((0 : Nat) : Int)) (signed (seedAt (dgA) 0) (dgB)) (way (publics (dgA) (pw 0)) 0)))) && (decide ((((keyPub (dgA) (((5 : Nat) : Int))).2 : Nat) : Int) = ((2 : Nat) : Int)))) && (decide ((((keySign (dgA) (((0 : Nat) : Int)) (((1 : Nat) : Int)) (dgB)).2.2.2 : Nat) : Int) = ((1 : Nat) : Int)))) (Pr.ex (Dg.val (root (publics (dgA) (pw 0)))))), (70, Pr.ifb ((((((true && true) && (decide ((((way (publics (dgA) (pw 0)) 0).length : Nat) : Int) = ((0 : Nat) : Int)))) && (keyCheck (root (publics (dgA) (pw 0))) (dgB) (((0 : Nat) : Int)) (signed (seedAt (dgA) 0) (dgB)) (way (publics (dgA) (pw 0)) 0))) && (!(keyCheck (dgA) (dgB) (((0 : Nat) : Int)) (signed (seedAt (dgA) 0) (dgB)) (way (publics (dgA) (pw 0)) 0)))) && (decide ((((keyPub (dgA) (((5 : Nat) : Int))).2 : Nat) : Int) = ((2 : Nat) : Int)))) && (decide ((((keySign (dgA) (((0 : Nat) : Int)) (((1 : Nat) : Int)) (dgB)).2.2.2 : Nat) : Int) = ((1 : Nat) : Int)))) (Pr.ex (Dg.val (dgA)))), (71, Pr.ifb ((((((true && true) && (decide ((((way (publics (dgA) (pw 0)) 0).length : Nat) : Int) = ((0 : Nat) : Int)))) && (keyCheck (root (publics (dgA) (pw 0))) (dgB) (((0 : Nat) : Int)) (signed (seedAt (dgA) 0) (dgB)) (way (publics (dgA) (pw 0)) 0))) && (!(keyCheck (dgA) (dgB) (((0 : Nat) : Int)) (signed (seedAt (dgA) 0) (dgB)) (way (publics (dgA) (pw 0)) 0)))) && (decide ((((keyPub (dgA) (((5 : Nat) : Int))).2 : Nat) : Int) = ((2 : Nat) : Int)))) && (decide ((((keySign (dgA) (((0 : Nat) : Int)) (((1 : Nat) : Int)) (dgB)).2.2.2 : Nat) : Int) = ((1 : Nat) : Int)))) (Pr.ex (Dg.val (seedAt (dgA) 0)))), (72, Pr.ifb ((((((true && true) && (decide ((((way (publics (dgA) (pw 0)) 0).length : Nat) : Int) = ((0 : Nat) : Int)))) && (keyCheck (root (publics (dgA) (pw 0))) (dgB) (((0 : Nat) : Int)) (signed (seedAt (dgA) 0) (dgB)) (way (publics (dgA) (pw 0)) 0))) && (!(keyCheck (dgA) (dgB) (((0 : Nat) : Int)) (signed (seedAt (dgA) 0) (dgB)) (way (publics (dgA) (pw 0)) 0)))) && (decide ((((keyPub (dgA) (((5 : Nat) : Int))).2 : Nat) : Int) = ((2 : Nat) : Int)))) && (decide ((((keySign (dgA) (((0 : Nat) : Int)) (((1 : Nat) : Int)) (dgB)).2.2.2 : Nat) : Int) = ((1 : Nat) : Int)))) (Pr.ex (Dg.val (Sd.lone (seedAt (dgA) 0))))), (73, Pr.ifb ((((((true && true) && (decide ((((way (publics (dgA) (pw 0)) 0).length : Nat) : Int) = ((0 : Nat) : Int)))) && (keyCheck (root (publics (dgA) (pw 0))) (dgB) (((0 : Nat) : Int)) (signed (seedAt (dgA) 0) (dgB)) (way (publics (dgA) (pw 0)) 0))) && (!(keyCheck (dgA) (dgB) (((0 : Nat) : Int)) (signed (seedAt (dgA) 0) (dgB)) (way (publics (dgA) (pw 0)) 0)))) && (decide ((((keyPub (dgA) (((5 : Nat) : Int))).2 : Nat) : Int) = ((2 : Nat) : Int)))) && (decide ((((keySign (dgA) (((0 : Nat) : Int)) (((1 : Nat) : Int)) (dgB)).2.2.2 : Nat) : Int) = ((1 : Nat) : Int)))) (Pr.ex (Value.bool (decide (root (publics (dgA) (pw 0)) = Sd.lone (seedAt (dgA) 0)))))), (74, Pr.ex (Value.bool (((((((true && true) && (decide ((((way (publics (dgA) (pw 0)) 0).length : Nat) : Int) = ((0 : Nat) : Int)))) && (keyCheck (root (publics (dgA) (pw 0))) (dgB) (((0 : Nat) : Int)) (signed (seedAt (dgA) 0) (dgB)) (way (publics (dgA) (pw 0)) 0))) && (!(keyCheck (dgA) (dgB) (((0 : Nat) : Int)) (signed (seedAt (dgA) 0) (dgB)) (way (publics (dgA) (pw 0)) 0)))) && (decide ((((keyPub (dgA) (((5 : Nat) : Int))).2 : Nat) : Int) = ((2 : Nat) : Int)))) && (decide ((((keySign (dgA) (((0 : Nat) : Int)) (((1 : Nat) : Int)) (dgB)).2.2.2 : Nat) : Int) = ((1 : Nat) : Int)))) && (decide (root (publics (dgA) (pw 0)) = Sd.lone (seedAt (dgA) 0)))))), (0, Pr.ex (Value.bool (((((((true && true) && (decide ((((way (publics (dgA) (pw 0)) 0).length : Nat) : Int) = ((0 : Nat) : Int)))) && (keyCheck (root (publics (dgA) (pw 0))) (dgB) (((0 : Nat) : Int)) (signed (seedAt (dgA) 0) (dgB)) (way (publics (dgA) (pw 0)) 0))) && (!(keyCheck (dgA) (dgB) (((0 : Nat) : Int)) (signed (seedAt (dgA) 0) (dgB)) (way (publics (dgA) (pw 0)) 0)))) && (decide ((((keyPub (dgA) (((5 : Nat) : Int))).2 : Nat) : Int) = ((2 : Nat) : Int)))) && (decide ((((keySign (dgA) (((0 : Nat) : Int)) (((1 : Nat) : Int)) (dgB)).2.2.2 : Nat) : Int) = ((1 : Nat) : Int)))) && (decide (root (publics (dgA) (pw 0)) = Sd.lone (seedAt (dgA) 0))))))] 41 mixed N19 D19 ?_ ?_
 refine Ac ?_ (Ac ?_ (Ac ?_ (Ac ?_ (Ac ?_ (Ac ?_ (Ac ?_ (Ac ?_ (Ac ?_ (Ac ?_ (Ac ?_ (Ac ?_ (Ac ?_ (Ac ?_ (Ac ?_ (Ac ?_ (Ac ?_ (Ac ?_ (Ac ?_ (Ac ?_ (Ac ?_ (Ac ?_ (Ac ?_ (Ac ?_ (Ac ?_ (Ac ?_ (Ac ?_ (Ac ?_ (Ac ?_ (Ac ?_ (Ac ?_ (Ac ?_ (Ac ?_ (Ac ?_ (Ac ?_ (Ac ?_ (Ac ?_ (Ac ?_ (Ac ?_ (Ac ?_ (Ac ?_ (Az _)))))))))))))))))))))))))))))))))))))))))
 exact Am s4_19 rfl fun _ => rfl
 exact Ad fun aq wq _ hO hR hT => does_eql (a := ((0 : Nat) : Int)) (b := ((0 : Nat) : Int)) (hT 35 rfl rfl) rfl eR
 exact Ad fun aq wq _ hO hR hT => does_move (V := Value.bool (true)) (hT 36 rfl rfl) eR
 refine Ask.guarded (B := true) (want := true) (t := 37) rfl rfl rfl rfl (by decide) (fun aq wq hO hR hT => hT 37 rfl rfl) (fun hG aq wq hNq hO hR hT => ?_) (fun hno _ => fun hc => absurd hc hno)
 replace hR := (Ext.drew _).trans hR
 exact does_move (V := i64 ((0 : Nat) : Int)) (oT hO s6_19 rfl) ⟨Ext.refl _, fun _ => rfl⟩
 refine Ask.guarded (B := true) (want := true) (t := 37) rfl rfl rfl rfl (by decide) (fun aq wq hO hR hT => hT 37 rfl rfl) (fun hG aq wq hNq hO hR hT => ?_) (fun hno _ => fun hc => absurd hc hno)
 replace hR := (Ext.drew _).trans hR
 exact does_eql (a := ((0 : Nat) : Int)) (b := ((0 : Nat) : Int)) (hT 38 rfl rfl hG) rfl ⟨Ext.refl _, fun _ => rfl⟩
 exact Ad fun aq wq _ hO hR hT => does_and (B := true) (X := true) (hT 37 rfl rfl) (fun hB => (hT 39 rfl rfl hB)) rfl eR
 exact Ad fun aq wq _ hO hR hT => does_move (V := Value.bool (true && true)) (hT 40 rfl rfl) eR
 refine Ask.guarded (B := true && true) (want := true) (t := 41) rfl rfl rfl rfl (by decide) (fun aq wq hO hR hT => hT 41 rfl rfl) (fun hG aq wq hNq hO hR hT => ?_) (fun hno _ => fun hc => absurd hc hno)
 replace hR := (Ext.drew _).trans hR
 exact does_field (o' := 2) fld_30_2 (oT hO s5_19 rfl) rfl ⟨Ext.refl _, fun _ => rfl⟩
 refine Ask.guarded (B := true && true) (want := true) (t := 41) rfl rfl rfl rfl (by decide) (fun aq wq hO hR hT => hT 41 rfl rfl) (fun hG aq wq hNq hO hR hT => ?_) (fun hno _ => fun hc => absurd hc hno)
 replace hR := (Ext.drew _).trans hR
 exact does_loadD1 (o := 2) (V := x22_1_9) (hT 42 rfl rfl hG) (B5_18.ext' hR) rfl one_27 ⟨Ext.refl _, fun _ => rfl⟩
 refine Ask.guarded (B := true && true) (want := true) (t := 41) rfl rfl rfl rfl (by decide) (fun aq wq hO hR hT => hT 41 rfl rfl) (fun hG aq wq hNq hO hR hT => ?_) (fun hno _ => fun hc => absurd hc hno)
 replace hR := (Ext.drew _).trans hR
 exact does_len (T := DG) (xs := way (publics (dgA) (pw 0)) 0) sli_27 (SlT.at (hT 43 rfl rfl hG) (X22_1_9_18.ext' hR)) ⟨Ext.refl _, fun _ => rfl⟩
 refine Ask.guarded (B := true && true) (want := true) (t := 41) rfl rfl rfl rfl (by decide) (fun aq wq hO hR hT => hT 41 rfl rfl) (fun hG aq wq hNq hO hR hT => ?_) (fun hno _ => fun hc => absurd hc hno)
 replace hR := (Ext.drew _).trans hR
 exact does_eql (a := (((way (publics (dgA) (pw 0)) 0).length : Nat) : Int)) (b := ((0 : Nat) : Int)) (hT 44 rfl rfl hG) rfl ⟨Ext.refl _, fun _ => rfl⟩
 exact Ad fun aq wq _ hO hR hT => does_and (B := true && true) (X := decide ((((way (publics (dgA) (pw 0)) 0).length : Nat) : Int) = ((0 : Nat) : Int))) (hT 41 rfl rfl) (fun hB => (hT 45 rfl rfl hB)) rfl eR
 exact Ad fun aq wq _ hO hR hT => does_move (V := Value.bool ((true && true) && (decide ((((way (publics (dgA) (pw 0)) 0).length : Nat) : Int) = ((0 : Nat) : Int))))) (hT 46 rfl rfl) eR
 refine Ask.guarded (B := (true && true) && (decide ((((way (publics (dgA) (pw 0)) 0).length : Nat) : Int) = ((0 : Nat) : Int)))) (want := true) (t := 47) rfl rfl rfl rfl (by decide) (fun aq wq hO hR hT => hT 47 rfl rfl) (fun hG aq wq hNq hO hR hT => ?_) (fun hno _ => fun hc => absurd hc hno)
 replace hR := (Ext.drew _).trans hR
 exact does_loadD (o := 0) (n := 4) (mid := [w32 (root (publics (dgA) (pw 0))).a, w32 (root (publics (dgA) (pw 0))).b, w32 (root (publics (dgA) (pw 0))).c, w32 (root (publics (dgA) (pw 0))).d]) (oT hO s3_19 rfl) (B3_18.ext' hR) rfl rfl (nB rfl) row_24 rfl ⟨Ext.refl _, fun _ => rfl⟩
 refine Ask.guarded (B := (true && true) && (decide ((((way (publics (dgA) (pw 0)) 0).length : Nat) : Int) = ((0 : Nat) : Int)))) (want := true) (t := 47) rfl rfl rfl rfl (by decide) (fun aq wq hO hR hT => hT 47 rfl rfl) (fun hG aq wq hNq hO hR hT => ?_) (fun hno _ => fun hc => absurd hc hno)
 replace hR := (Ext.drew _).trans hR
 exact does_loadD (o := 0) (n := 4) (mid := [w32 (dgB).a, w32 (dgB).b, w32 (dgB).c, w32 (dgB).d]) (oT hO s2_19 rfl) (B2_18.ext' hR) rfl rfl (nB rfl) row_24 rfl ⟨Ext.refl _, fun _ => rfl⟩
 refine Ask.guarded (B := (true && true) && (decide ((((way (publics (dgA) (pw 0)) 0).length : Nat) : Int) = ((0 : Nat) : Int)))) (want := true) (t := 47) rfl rfl rfl rfl (by decide) (fun aq wq hO hR hT => hT 47 rfl rfl) (fun hG aq wq hNq hO hR hT => ?_) (fun hno _ => fun hc => absurd hc hno)
 replace hR := (Ext.drew _).trans hR
 exact does_loadD (o := 0) (n := 3) (mid := [i64 ((0 : Nat) : Int), x22_0_9, x22_1_9]) (oT hO s5_19 rfl) (B5_18.ext' hR) rfl rfl (nB rfl) row_30 rfl ⟨Ext.refl _, fun _ => rfl⟩
 refine Ask.guarded (B := (true && true) && (decide ((((way (publics (dgA) (pw 0)) 0).length : Nat) : Int) = ((0 : Nat) : Int)))) (want := true) (t := 47) rfl rfl rfl rfl (by decide) (fun aq wq hO hR hT => hT 47 rfl rfl) (fun hG aq wq hNq hO hR hT => ?_) (fun hno _ => fun hc => absurd hc hno)
 replace hR := (Ext.drew _).trans hR
 exact does_ret (vs := #[Dg.val (root (publics (dgA) (pw 0))), Dg.val (dgB), Value.agg #[i64 ((0 : Nat) : Int), x22_0_9, x22_1_9]]) call_12 (args3 (hT 48 rfl rfl hG) (hT 49 rfl rfl hG) (hT 50 rfl rfl hG)) rfl ((keyCheck_ (root (publics (dgA) (pw 0))) (dgB) (((0 : Nat) : Int)) (signed (seedAt (dgA) 0) (dgB)) (way (publics (dgA) (pw 0)) 0) (x22_0_9) (x22_1_9) wq (hL.ext (E18.trans hR)) ((X22_0_9_18.ext' hR).wide (Nat.zero_le _) (.inl rfl)) ((X22_1_9_18.ext' hR).wide (Nat.zero_le _) (.inl rfl)) (by rw [signed_length]; decide) (by rw [way_pub0]; decide)).mono fun v w2 h => ⟨h.2, fun _ => h.1⟩)
 exact Ad fun aq wq _ hO hR hT => does_and (B := (true && true) && (decide ((((way (publics (dgA) (pw 0)) 0).length : Nat) : Int) = ((0 : Nat) : Int)))) (X := keyCheck (root (publics (dgA) (pw 0))) (dgB) (((0 : Nat) : Int)) (signed (seedAt (dgA) 0) (dgB)) (way (publics (dgA) (pw 0)) 0)) (hT 47 rfl rfl) (fun hB => (hT 51 rfl rfl hB)) rfl eR
 exact Ad fun aq wq _ hO hR hT => does_move (V := Value.bool (((true && true) && (decide ((((way (publics (dgA) (pw 0)) 0).length : Nat) : Int) = ((0 : Nat) : Int)))) && (keyCheck (root (publics (dgA) (pw 0))) (dgB) (((0 : Nat) : Int)) (signed (seedAt (dgA) 0) (dgB)) (way (publics (dgA) (pw 0)) 0)))) (hT 52 rfl rfl) eR
 refine Ask.guarded (B := ((true && true) && (decide ((((way (publics (dgA) (pw 0)) 0).length : Nat) : Int) = ((0 : Nat) : Int)))) && (keyCheck (root (publics (dgA) (pw 0))) (dgB) (((0 : Nat) : Int)) (signed (seedAt (dgA) 0) (dgB)) (way (publics (dgA) (pw 0)) 0))) (want := true) (t := 53) rfl rfl rfl rfl (by decide) (fun aq wq hO hR hT => hT 53 rfl rfl) (fun hG aq wq hNq hO hR hT => ?_) (fun hno _ => fun hc => absurd hc hno)
 replace hR := (Ext.drew _).trans hR
 exact does_loadD (o := 0) (n := 4) (mid := [w32 (dgA).a, w32 (dgA).b, w32 (dgA).c, w32 (dgA).d]) (oT hO s1_19 rfl) (B1_18.ext' hR) rfl rfl (nB rfl) row_24 rfl ⟨Ext.refl _, fun _ => rfl⟩
 refine Ask.guarded (B := ((true && true) && (decide ((((way (publics (dgA) (pw 0)) 0).length : Nat) : Int) = ((0 : Nat) : Int)))) && (keyCheck (root (publics (dgA) (pw 0))) (dgB) (((0 : Nat) : Int)) (signed (seedAt (dgA) 0) (dgB)) (way (publics (dgA) (pw 0)) 0))) (want := true) (t := 53) rfl rfl rfl rfl (by decide) (fun aq wq hO hR hT => hT 53 rfl rfl) (fun hG aq wq hNq hO hR hT => ?_) (fun hno _ => fun hc => absurd hc hno)
 replace hR := (Ext.drew _).trans hR
 exact does_loadD (o := 0) (n := 4) (mid := [w32 (dgB).a, w32 (dgB).b, w32 (dgB).c, w32 (dgB).d]) (oT hO s2_19 rfl) (B2_18.ext' hR) rfl rfl (nB rfl) row_24 rfl ⟨Ext.refl _, fun _ => rfl⟩
 refine Ask.guarded (B := ((true && true) && (decide ((((way (publics (dgA) (pw 0)) 0).length : Nat) : Int) = ((0 : Nat) : Int)))) && (keyCheck (root (publics (dgA) (pw 0))) (dgB) (((0 : Nat) : Int)) (signed (seedAt (dgA) 0) (dgB)) (way (publics (dgA) (pw 0)) 0))) (want := true) (t := 53) rfl rfl rfl rfl (by decide) (fun aq wq hO hR hT => hT 53 rfl rfl) (fun hG aq wq hNq hO hR hT => ?_) (fun hno _ => fun hc => absurd hc hno)
 replace hR := (Ext.drew _).trans hR
 exact does_loadD (o := 0) (n := 3) (mid := [i64 ((0 : Nat) : Int), x22_0_9, x22_1_9]) (oT hO s5_19 rfl) (B5_18.ext' hR) rfl rfl (nB rfl) row_30 rfl ⟨Ext.refl _, fun _ => rfl⟩
 refine Ask.guarded (B := ((true && true) && (decide ((((way (publics (dgA) (pw 0)) 0).length : Nat) : Int) = ((0 : Nat) : Int)))) && (keyCheck (root (publics (dgA) (pw 0))) (dgB) (((0 : Nat) : Int)) (signed (seedAt (dgA) 0) (dgB)) (way (publics (dgA) (pw 0)) 0))) (want := true) (t := 53) rfl rfl rfl rfl (by decide) (fun aq wq hO hR hT => hT 53 rfl rfl) (fun hG aq wq hNq hO hR hT => ?_) (fun hno _ => fun hc => absurd hc hno)
 replace hR := (Ext.drew _).trans hR
 exact does_ret (vs := #[Dg.val (dgA), Dg.val (dgB), Value.agg #[i64 ((0 : Nat) : Int), x22_0_9, x22_1_9]]) call_12 (args3 (hT 54 rfl rfl hG) (hT 55 rfl rfl hG) (hT 56 rfl rfl hG)) rfl ((keyCheck_ (dgA) (dgB) (((0 : Nat) : Int)) (signed (seedAt (dgA) 0) (dgB)) (way (publics (dgA) (pw 0)) 0) (x22_0_9) (x22_1_9) wq (hL.ext (E18.trans hR)) ((X22_0_9_18.ext' hR).wide (Nat.zero_le _) (.inl rfl)) ((X22_1_9_18.ext' hR).wide (Nat.zero_le _) (.inl rfl)) (by rw [signed_length]; decide) (by rw [way_pub0]; decide)).mono fun v w2 h => ⟨h.2, fun _ => h.1⟩)
 refine Ask.guarded (B := ((true && true) && (decide ((((way (publics (dgA) (pw 0)) 0).length : Nat) : Int) = ((0 : Nat) : Int)))) && (keyCheck (root (publics (dgA) (pw 0))) (dgB) (((0 : Nat) : Int)) (signed (seedAt (dgA) 0) (dgB)) (way (publics (dgA) (pw 0)) 0))) (want := true) (t := 53) rfl rfl rfl rfl (by decide) (fun aq wq hO hR hT => hT 53 rfl rfl) (fun hG aq wq hNq hO hR hT => ?_) (fun hno _ => fun hc => absurd hc hno)
 replace hR := (Ext.drew _).trans hR
 exact does_not (B := keyCheck (dgA) (dgB) (((0 : Nat) : Int)) (signed (seedAt (dgA) 0) (dgB)) (way (publics (dgA) (pw 0)) 0)) (hT 57 rfl rfl hG) ⟨Ext.refl _, fun _ => rfl⟩
 exact Ad fun aq wq _ hO hR hT => does_and (B := ((true && true) && (decide ((((way (publics (dgA) (pw 0)) 0).length : Nat) : Int) = ((0 : Nat) : Int)))) && (keyCheck (root (publics (dgA) (pw 0))) (dgB) (((0 : Nat) : Int)) (signed (seedAt (dgA) 0) (dgB)) (way (publics (dgA) (pw 0)) 0))) (X := !(keyCheck (dgA) (dgB) (((0 : Nat) : Int)) (signed (seedAt (dgA) 0) (dgB)) (way (publics (dgA) (pw 0)) 0))) (hT 53 rfl rfl) (fun hB => (hT 58 rfl rfl hB)) rfl eR
 exact Ad fun aq wq _ hO hR hT => does_move (V := Value.bool ((((true && true) && (decide ((((way (publics (dgA) (pw 0)) 0).length : Nat) : Int) = ((0 : Nat) : Int)))) && (keyCheck (root (publics (dgA) (pw 0))) (dgB) (((0 : Nat) : Int)) (signed (seedAt (dgA) 0) (dgB)) (way (publics (dgA) (pw 0)) 0))) && (!(keyCheck (dgA) (dgB) (((0 : Nat) : Int)) (signed (seedAt (dgA) 0) (dgB)) (way (publics (dgA) (pw 0)) 0))))) (hT 59 rfl rfl) eR
 refine Ask.guarded (B := (((true && true) && (decide ((((way (publics (dgA) (pw 0)) 0).length : Nat) : Int) = ((0 : Nat) : Int)))) && (keyCheck (root (publics (dgA) (pw 0))) (dgB) (((0 : Nat) : Int)) (signed (seedAt (dgA) 0) (dgB)) (way (publics (dgA) (pw 0)) 0))) && (!(keyCheck (dgA) (dgB) (((0 : Nat) : Int)) (signed (seedAt (dgA) 0) (dgB)) (way (publics (dgA) (pw 0)) 0)))) (want := true) (t := 60) rfl rfl rfl rfl (by decide) (fun aq wq hO hR hT => hT 60 rfl rfl) (fun hG aq wq hNq hO hR hT => ?_) (fun hno _ => fun hc => absurd hc hno)
 replace hR := (Ext.drew _).trans hR
 exact does_move (V := i64 (((keyPub (dgA) (((5 : Nat) : Int))).2 : Nat) : Int)) (oT hO s8_19 rfl) ⟨Ext.refl _, fun _ => rfl⟩
 refine Ask.guarded (B := (((true && true) && (decide ((((way (publics (dgA) (pw 0)) 0).length : Nat) : Int) = ((0 : Nat) : Int)))) && (keyCheck (root (publics (dgA) (pw 0))) (dgB) (((0 : Nat) : Int)) (signed (seedAt (dgA) 0) (dgB)) (way (publics (dgA) (pw 0)) 0))) && (!(keyCheck (dgA) (dgB) (((0 : Nat) : Int)) (signed (seedAt (dgA) 0) (dgB)) (way (publics (dgA) (pw 0)) 0)))) (want := true) (t := 60) rfl rfl rfl rfl (by decide) (fun aq wq hO hR hT => hT 60 rfl rfl) (fun hG aq wq hNq hO hR hT => ?_) (fun hno _ => fun hc => absurd hc hno)
 replace hR := (Ext.drew _).trans hR
 exact does_eql (a := (((keyPub (dgA) (((5 : Nat) : Int))).2 : Nat) : Int)) (b := ((2 : Nat) : Int)) (hT 61 rfl rfl hG) rfl ⟨Ext.refl _, fun _ => rfl⟩
 exact Ad fun aq wq _ hO hR hT => does_and (B := (((true && true) && (decide ((((way (publics (dgA) (pw 0)) 0).length : Nat) : Int) = ((0 : Nat) : Int)))) && (keyCheck (root (publics (dgA) (pw 0))) (dgB) (((0 : Nat) : Int)) (signed (seedAt (dgA) 0) (dgB)) (way (publics (dgA) (pw 0)) 0))) && (!(keyCheck (dgA) (dgB) (((0 : Nat) : Int)) (signed (seedAt (dgA) 0) (dgB)) (way (publics (dgA) (pw 0)) 0)))) (X := decide ((((keyPub (dgA) (((5 : Nat) : Int))).2 : Nat) : Int) = ((2 : Nat) : Int))) (hT 60 rfl rfl) (fun hB => (hT 62 rfl rfl hB)) rfl eR
 exact Ad fun aq wq _ hO hR hT => does_move (V := Value.bool (((((true && true) && (decide ((((way (publics (dgA) (pw 0)) 0).length : Nat) : Int) = ((0 : Nat) : Int)))) && (keyCheck (root (publics (dgA) (pw 0))) (dgB) (((0 : Nat) : Int)) (signed (seedAt (dgA) 0) (dgB)) (way (publics (dgA) (pw 0)) 0))) && (!(keyCheck (dgA) (dgB) (((0 : Nat) : Int)) (signed (seedAt (dgA) 0) (dgB)) (way (publics (dgA) (pw 0)) 0)))) && (decide ((((keyPub (dgA) (((5 : Nat) : Int))).2 : Nat) : Int) = ((2 : Nat) : Int))))) (hT 63 rfl rfl) eR
 refine Ask.guarded (B := ((((true && true) && (decide ((((way (publics (dgA) (pw 0)) 0).length : Nat) : Int) = ((0 : Nat) : Int)))) && (keyCheck (root (publics (dgA) (pw 0))) (dgB) (((0 : Nat) : Int)) (signed (seedAt (dgA) 0) (dgB)) (way (publics (dgA) (pw 0)) 0))) && (!(keyCheck (dgA) (dgB) (((0 : Nat) : Int)) (signed (seedAt (dgA) 0) (dgB)) (way (publics (dgA) (pw 0)) 0)))) && (decide ((((keyPub (dgA) (((5 : Nat) : Int))).2 : Nat) : Int) = ((2 : Nat) : Int)))) (want := true) (t := 64) rfl rfl rfl rfl (by decide) (fun aq wq hO hR hT => hT 64 rfl rfl) (fun hG aq wq hNq hO hR hT => ?_) (fun hno _ => fun hc => absurd hc hno)
 replace hR := (Ext.drew _).trans hR
 exact does_move (V := i64 (((keySign (dgA) (((0 : Nat) : Int)) (((1 : Nat) : Int)) (dgB)).2.2.2 : Nat) : Int)) (oT hO s10_19 rfl) ⟨Ext.refl _, fun _ => rfl⟩
 refine Ask.guarded (B := ((((true && true) && (decide ((((way (publics (dgA) (pw 0)) 0).length : Nat) : Int) = ((0 : Nat) : Int)))) && (keyCheck (root (publics (dgA) (pw 0))) (dgB) (((0 : Nat) : Int)) (signed (seedAt (dgA) 0) (dgB)) (way (publics (dgA) (pw 0)) 0))) && (!(keyCheck (dgA) (dgB) (((0 : Nat) : Int)) (signed (seedAt (dgA) 0) (dgB)) (way (publics (dgA) (pw 0)) 0)))) && (decide ((((keyPub (dgA) (((5 : Nat) : Int))).2 : Nat) : Int) = ((2 : Nat) : Int)))) (want := true) (t := 64) rfl rfl rfl rfl (by decide) (fun aq wq hO hR hT => hT 64 rfl rfl) (fun hG aq wq hNq hO hR hT => ?_) (fun hno _ => fun hc => absurd hc hno)
 replace hR := (Ext.drew _).trans hR
 exact does_eql (a := (((keySign (dgA) (((0 : Nat) : Int)) (((1 : Nat) : Int)) (dgB)).2.2.2 : Nat) : Int)) (b := ((1 : Nat) : Int)) (hT 65 rfl rfl hG) rfl ⟨Ext.refl _, fun _ => rfl⟩
 exact Ad fun aq wq _ hO hR hT => does_and (B := ((((true && true) && (decide ((((way (publics (dgA) (pw 0)) 0).length : Nat) : Int) = ((0 : Nat) : Int)))) && (keyCheck (root (publics (dgA) (pw 0))) (dgB) (((0 : Nat) : Int)) (signed (seedAt (dgA) 0) (dgB)) (way (publics (dgA) (pw 0)) 0))) && (!(keyCheck (dgA) (dgB) (((0 : Nat) : Int)) (signed (seedAt (dgA) 0) (dgB)) (way (publics (dgA) (pw 0)) 0)))) && (decide ((((keyPub (dgA) (((5 : Nat) : Int))).2 : Nat) : Int) = ((2 : Nat) : Int)))) (X := decide ((((keySign (dgA) (((0 : Nat) : Int)) (((1 : Nat) : Int)) (dgB)).2.2.2 : Nat) : Int) = ((1 : Nat) : Int))) (hT 64 rfl rfl) (fun hB => (hT 66 rfl rfl hB)) rfl eR
 exact Ad fun aq wq _ hO hR hT => does_move (V := Value.bool ((((((true && true) && (decide ((((way (publics (dgA) (pw 0)) 0).length : Nat) : Int) = ((0 : Nat) : Int)))) && (keyCheck (root (publics (dgA) (pw 0))) (dgB) (((0 : Nat) : Int)) (signed (seedAt (dgA) 0) (dgB)) (way (publics (dgA) (pw 0)) 0))) && (!(keyCheck (dgA) (dgB) (((0 : Nat) : Int)) (signed (seedAt (dgA) 0) (dgB)) (way (publics (dgA) (pw 0)) 0)))) && (decide ((((keyPub (dgA) (((5 : Nat) : Int))).2 : Nat) : Int) = ((2 : Nat) : Int)))) && (decide ((((keySign (dgA) (((0 : Nat) : Int)) (((1 : Nat) : Int)) (dgB)).2.2.2 : Nat) : Int) = ((1 : Nat) : Int))))) (hT 67 rfl rfl) eR
 refine Ask.guarded (B := (((((true && true) && (decide ((((way (publics (dgA) (pw 0)) 0).length : Nat) : Int) = ((0 : Nat) : Int)))) && (keyCheck (root (publics (dgA) (pw 0))) (dgB) (((0 : Nat) : Int)) (signed (seedAt (dgA) 0) (dgB)) (way (publics (dgA) (pw 0)) 0))) && (!(keyCheck (dgA) (dgB) (((0 : Nat) : Int)) (signed (seedAt (dgA) 0) (dgB)) (way (publics (dgA) (pw 0)) 0)))) && (decide ((((keyPub (dgA) (((5 : Nat) : Int))).2 : Nat) : Int) = ((2 : Nat) : Int)))) && (decide ((((keySign (dgA) (((0 : Nat) : Int)) (((1 : Nat) : Int)) (dgB)).2.2.2 : Nat) : Int) = ((1 : Nat) : Int)))) (want := true) (t := 68) rfl rfl rfl rfl (by decide) (fun aq wq hO hR hT => hT 68 rfl rfl) (fun hG aq wq hNq hO hR hT => ?_) (fun hno _ => fun hc => absurd hc hno)
 replace hR := (Ext.drew _).trans hR
 exact does_loadD (o := 0) (n := 4) (mid := [w32 (root (publics (dgA) (pw 0))).a, w32 (root (publics (dgA) (pw 0))).b, w32 (root (publics (dgA) (pw 0))).c, w32 (root (publics (dgA) (pw 0))).d]) (oT hO s3_19 rfl) (B3_18.ext' hR) rfl rfl (nB rfl) row_24 rfl ⟨Ext.refl _, fun _ => rfl⟩
 refine Ask.guarded (B := (((((true && true) && (decide ((((way (publics (dgA) (pw 0)) 0).length : Nat) : Int) = ((0 : Nat) : Int)))) && (keyCheck (root (publics (dgA) (pw 0))) (dgB) (((0 : Nat) : Int)) (signed (seedAt (dgA) 0) (dgB)) (way (publics (dgA) (pw 0)) 0))) && (!(keyCheck (dgA) (dgB) (((0 : Nat) : Int)) (signed (seedAt (dgA) 0) (dgB)) (way (publics (dgA) (pw 0)) 0)))) && (decide ((((keyPub (dgA) (((5 : Nat) : Int))).2 : Nat) : Int) = ((2 : Nat) : Int)))) && (decide ((((keySign (dgA) (((0 : Nat) : Int)) (((1 : Nat) : Int)) (dgB)).2.2.2 : Nat) : Int) = ((1 : Nat) : Int)))) (want := true) (t := 68) rfl rfl rfl rfl (by decide) (fun aq wq hO hR hT => hT 68 rfl rfl) (fun hG aq wq hNq hO hR hT => ?_) (fun hno _ => fun hc => absurd hc hno)
 replace hR := (Ext.drew _).trans hR
 exact does_loadD (o := 0) (n := 4) (mid := [w32 (dgA).a, w32 (dgA).b, w32 (dgA).c, w32 (dgA).d]) (oT hO s1_19 rfl) (B1_18.ext' hR) rfl rfl (nB rfl) row_24 rfl ⟨Ext.refl _, fun _ => rfl⟩
 refine Ask.guarded (B := (((((true && true) && (decide ((((way (publics (dgA) (pw 0)) 0).length : Nat) : Int) = ((0 : Nat) : Int)))) && (keyCheck (root (publics (dgA) (pw 0))) (dgB) (((0 : Nat) : Int)) (signed (seedAt (dgA) 0) (dgB)) (way (publics (dgA) (pw 0)) 0))) && (!(keyCheck (dgA) (dgB) (((0 : Nat) : Int)) (signed (seedAt (dgA) 0) (dgB)) (way (publics (dgA) (pw 0)) 0)))) && (decide ((((keyPub (dgA) (((5 : Nat) : Int))).2 : Nat) : Int) = ((2 : Nat) : Int)))) && (decide ((((keySign (dgA) (((0 : Nat) : Int)) (((1 : Nat) : Int)) (dgB)).2.2.2 : Nat) : Int) = ((1 : Nat) : Int)))) (want := true) (t := 68) rfl rfl rfl rfl (by decide) (fun aq wq hO hR hT => hT 68 rfl rfl) (fun hG aq wq hNq hO hR hT => ?_) (fun hno _ => fun hc => absurd hc hno)
 replace hR := (Ext.drew _).trans hR
 exact does_ret (vs := #[Dg.val (dgA), i64 ((0 : Nat) : Int)]) call_18 (args2 (hT 70 rfl rfl hG) rfl) rfl ((seedR (dgA) 0 wq).mono fun v w2 h => ⟨h.2, fun _ => h.1⟩)
 refine Ask.guarded (B := (((((true && true) && (decide ((((way (publics (dgA) (pw 0)) 0).length : Nat) : Int) = ((0 : Nat) : Int)))) && (keyCheck (root (publics (dgA) (pw 0))) (dgB) (((0 : Nat) : Int)) (signed (seedAt (dgA) 0) (dgB)) (way (publics (dgA) (pw 0)) 0))) && (!(keyCheck (dgA) (dgB) (((0 : Nat) : Int)) (signed (seedAt (dgA) 0) (dgB)) (way (publics (dgA) (pw 0)) 0)))) && (decide ((((keyPub (dgA) (((5 : Nat) : Int))).2 : Nat) : Int) = ((2 : Nat) : Int)))) && (decide ((((keySign (dgA) (((0 : Nat) : Int)) (((1 : Nat) : Int)) (dgB)).2.2.2 : Nat) : Int) = ((1 : Nat) : Int)))) (want := true) (t := 68) rfl rfl rfl rfl (by decide) (fun aq wq hO hR hT => hT 68 rfl rfl) (fun hG aq wq hNq hO hR hT => ?_) (fun hno _ => fun hc => absurd hc hno)
 replace hR := (Ext.drew _).trans hR
 exact does_ret (vs := #[Dg.val (seedAt (dgA) 0)]) call_17 (args1 (hT 71 rfl rfl hG)) rfl ((publicR (seedAt (dgA) 0) wq).mono fun v w2 h => ⟨h.2, fun _ => h.1⟩)
 refine Ask.guarded (B := (((((true && true) && (decide ((((way (publics (dgA) (pw 0)) 0).length : Nat) : Int) = ((0 : Nat) : Int)))) && (keyCheck (root (publics (dgA) (pw 0))) (dgB) (((0 : Nat) : Int)) (signed (seedAt (dgA) 0) (dgB)) (way (publics (dgA) (pw 0)) 0))) && (!(keyCheck (dgA) (dgB) (((0 : Nat) : Int)) (signed (seedAt (dgA) 0) (dgB)) (way (publics (dgA) (pw 0)) 0)))) && (decide ((((keyPub (dgA) (((5 : Nat) : Int))).2 : Nat) : Int) = ((2 : Nat) : Int)))) && (decide ((((keySign (dgA) (((0 : Nat) : Int)) (((1 : Nat) : Int)) (dgB)).2.2.2 : Nat) : Int) = ((1 : Nat) : Int)))) (want := true) (t := 68) rfl rfl rfl rfl (by decide) (fun aq wq hO hR hT => hT 68 rfl rfl) (fun hG aq wq hNq hO hR hT => ?_) (fun hno _ => fun hc => absurd hc hno)
 replace hR := (Ext.drew _).trans hR
 exact does_eqT (a := root (publics (dgA) (pw 0))) (b := Sd.lone (seedAt (dgA) 0)) eq_24 (hT 69 rfl rfl hG) (hT 72 rfl rfl hG) ⟨Ext.refl _, fun _ => rfl⟩
 exact Ad fun aq wq _ hO hR hT => does_and (B := (((((true && true) && (decide ((((way (publics (dgA) (pw 0)) 0).length : Nat) : Int) = ((0 : Nat) : Int)))) && (keyCheck (root (publics (dgA) (pw 0))) (dgB) (((0 : Nat) : Int)) (signed (seedAt (dgA) 0) (dgB)) (way (publics (dgA) (pw 0)) 0))) && (!(keyCheck (dgA) (dgB) (((0 : Nat) : Int)) (signed (seedAt (dgA) 0) (dgB)) (way (publics (dgA) (pw 0)) 0)))) && (decide ((((keyPub (dgA) (((5 : Nat) : Int))).2 : Nat) : Int) = ((2 : Nat) : Int)))) && (decide ((((keySign (dgA) (((0 : Nat) : Int)) (((1 : Nat) : Int)) (dgB)).2.2.2 : Nat) : Int) = ((1 : Nat) : Int)))) (X := decide (root (publics (dgA) (pw 0)) = Sd.lone (seedAt (dgA) 0))) (hT 68 rfl rfl) (fun hB => (hT 73 rfl rfl hB)) rfl eR
 exact Ad fun aq wq _ hO hR hT => does_assign (V := Value.bool (((((((true && true) && (decide ((((way (publics (dgA) (pw 0)) 0).length : Nat) : Int) = ((0 : Nat) : Int)))) && (keyCheck (root (publics (dgA) (pw 0))) (dgB) (((0 : Nat) : Int)) (signed (seedAt (dgA) 0) (dgB)) (way (publics (dgA) (pw 0)) 0))) && (!(keyCheck (dgA) (dgB) (((0 : Nat) : Int)) (signed (seedAt (dgA) 0) (dgB)) (way (publics (dgA) (pw 0)) 0)))) && (decide ((((keyPub (dgA) (((5 : Nat) : Int))).2 : Nat) : Int) = ((2 : Nat) : Int)))) && (decide ((((keySign (dgA) (((0 : Nat) : Int)) (((1 : Nat) : Int)) (dgB)).2.2.2 : Nat) : Int) = ((1 : Nat) : Int)))) && (decide (root (publics (dgA) (pw 0)) = Sd.lone (seedAt (dgA) 0))))) (hT 74 rfl rfl) eR
 intro a20 wd20 N20 D20 hO hR hA hU
 obtain ⟨_, _, _, _, _, _, _, _, _, _, _, _, _, _, _, _, _, _, _, _, _, _, _, _, _, _, _, _, _, _, _, _, _, _, _, _, _, _, _, _, t0, _⟩ := hA
 have E20 := E18.trans hR
 have B1_20 := B1_18.ext' hR
 have B2_20 := B2_18.ext' hR
 have B3_20 := B3_18.ext' hR
 have B5_20 := B5_18.ext' hR
 have B7_20 := B7_18.ext' hR
 have B9_20 := B9_18.ext' hR
 have X22_0_9_20 := X22_0_9_18.ext' hR
 have X22_1_9_20 := X22_1_9_18.ext' hR
 have X33_0_16_20 := X33_0_16_18.ext' hR
 have X33_1_16_20 := X33_1_16_18.ext' hR
 have O22_0_9_20 := O22_0_9_18.ext' hR
 have O22_1_9_20 := O22_1_9_18.ext' hR
 have O33_0_16_20 := O33_0_16_18.ext' hR
 have O33_1_16_20 := O33_1_16_18.ext' hR
 have s0_20 : get a20 0 = Value.bool (((((((true && true) && (decide ((((way (publics (dgA) (pw 0)) 0).length : Nat) : Int) = ((0 : Nat) : Int)))) && (keyCheck (root (publics (dgA) (pw 0))) (dgB) (((0 : Nat) : Int)) (signed (seedAt (dgA) 0) (dgB)) (way (publics (dgA) (pw 0)) 0))) && (!(keyCheck (dgA) (dgB) (((0 : Nat) : Int)) (signed (seedAt (dgA) 0) (dgB)) (way (publics (dgA) (pw 0)) 0)))) && (decide ((((keyPub (dgA) (((5 : Nat) : Int))).2 : Nat) : Int) = ((2 : Nat) : Int)))) && (decide ((((keySign (dgA) (((0 : Nat) : Int)) (((1 : Nat) : Int)) (dgB)).2.2.2 : Nat) : Int) = ((1 : Nat) : Int)))) && (decide (root (publics (dgA) (pw 0)) = Sd.lone (seedAt (dgA) 0)))) := t0
 clear E18 N19 D19 s1_19 s2_19 s3_19 s4_19 s5_19 s6_19 s8_19 s10_19 B1_18 B2_18 B3_18 B5_18 B7_18 B9_18 X22_0_9_18 X22_1_9_18 X33_0_16_18 X33_1_16_18 O22_0_9_18 O22_1_9_18 O33_0_16_18 O33_1_16_18
 refine tail_nil ?_
 refine wp_ret ?_
 refine res_one (V := Value.bool (((((((true && true) && (decide ((((way (publics (dgA) (pw 0)) 0).length : Nat) : Int) = ((0 : Nat) : Int)))) && (keyCheck (root (publics (dgA) (pw 0))) (dgB) (((0 : Nat) : Int)) (signed (seedAt (dgA) 0) (dgB)) (way (publics (dgA) (pw 0)) 0))) && (!(keyCheck (dgA) (dgB) (((0 : Nat) : Int)) (signed (seedAt (dgA) 0) (dgB)) (way (publics (dgA) (pw 0)) 0)))) && (decide ((((keyPub (dgA) (((5 : Nat) : Int))).2 : Nat) : Int) = ((2 : Nat) : Int)))) && (decide ((((keySign (dgA) (((0 : Nat) : Int)) (((1 : Nat) : Int)) (dgB)).2.2.2 : Nat) : Int) = ((1 : Nat) : Int)))) && (decide (root (publics (dgA) (pw 0)) = Sd.lone (seedAt (dgA) 0))))) rfl D20 s0_20 ?_
 exact ⟨congrArg Value.bool (by rw [keyCheck_of (by decide) (by decide), keyCheck_of (by decide) (by decide), way_pub0]; simp [awake_law, root_pub0]; decide), E20⟩

end Go.Proofs.YtaeohnkfmachfaaDoor
