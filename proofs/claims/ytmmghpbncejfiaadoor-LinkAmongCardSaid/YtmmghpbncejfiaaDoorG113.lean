/- The walks of functions of the program: printed. -/
import Derived.Test.YtmmghpbncejfiaaDoorKB
import Derived.Test.YtmmghpbncejfiaaDoorG101
import Derived.Test.YtmmghpbncejfiaaDoorG102
import Derived.Test.YtmmghpbncejfiaaDoorG110
import Derived.Test.YtmmghpbncejfiaaDoorG111
import Derived.Test.YtmmghpbncejfiaaDoorG112
import Derived.Test.YtmmghpbncejfiaaDoorF0
set_option maxRecDepth 100000
namespace Go.Proofs.YtmmghpbncejfiaaDoor
open Go Go.RowKit Sk Sd
theorem say_ (seed : Dg) (n j : Nat) (r o : Dg) (w0 : World) (hn : n ≤ 4) (hj : j < pw n) :
    Gives Tryd.prog 16 #[Dg.val (seed), i64 (n : Int), i64 (j : Int), Value.agg #[w32 (r).a, w32 (r).b, w32 (r).c, w32 (r).d, w32 (o).a, w32 (o).b, w32 (o).c, w32 (o).d]] w0 (Pr.ag2 (fun x y => Value.agg #[w32 (root (publics seed (pw n))).a, w32 (root (publics seed (pw n))).b, w32 (root (publics seed (pw n))).c, w32 (root (publics seed (pw n))).d, i64 (j : Int), x, y]) (Pr.own' DG w0.heap.size 24 (signed (seedAt seed j) (linkOf r o))) (Pr.own' DG w0.heap.size 24 (way (publics seed (pw n)) j))) := by
 refine enter (N := 31) Tryd.func16 rfl rfl ?_
 intro a0 N0 D0 hA
 have s0_0 : get a0 0 = Dg.val (seed) := hA 0 _ rfl
 have s1_0 : get a0 1 = i64 (n : Int) := hA 1 _ rfl
 have s2_0 : get a0 2 = i64 (j : Int) := hA 2 _ rfl
 have s3_0 : get a0 3 = Value.agg #[w32 (r).a, w32 (r).b, w32 (r).c, w32 (r).d, w32 (o).a, w32 (o).b, w32 (o).c, w32 (o).d] := hA 3 _ rfl
 clear hA
 have E0 : Ext w0 w0 := Ext.refl w0
 refine wp_seq ?_
 refine Rl [4, 7, 8] [(4, Pr.box' w0.heap.size 24 [w32 (seed).a, w32 (seed).b, w32 (seed).c, w32 (seed).d]), (7, Pr.box' w0.heap.size 26 [w32 (r).a, w32 (r).b, w32 (r).c, w32 (r).d, w32 (o).a, w32 (o).b, w32 (o).c, w32 (o).d]), (8, Pr.box' w0.heap.size 32 [w32 (Dg.zero).a, w32 (Dg.zero).b, w32 (Dg.zero).c, w32 (Dg.zero).d, i64 ((0 : Nat) : Int), Value.slice none 0 0, Value.slice none 0 0])] 3 N0 D0 ?_ ?_
 refine Ac ?_ (Ac ?_ (Ac ?_ (Az _)))
 refine Ask.fresh rfl rfl ?_
 intro aq wq hNq hO hR hT
 exact does_box (V := Dg.val (seed)) (oT hO s0_0 rfl) (fun b w2 he hlo hb => ⟨he, ⟨b, rfl, Nat.le_trans hR.size' hlo, hb⟩, ⟨b, rfl, hlo, hb.lt⟩⟩)
 refine Ask.fresh rfl rfl ?_
 intro aq wq hNq hO hR hT
 exact does_box (V := Value.agg #[w32 (r).a, w32 (r).b, w32 (r).c, w32 (r).d, w32 (o).a, w32 (o).b, w32 (o).c, w32 (o).d]) (oT hO s3_0 rfl) (fun b w2 he hlo hb => ⟨he, ⟨b, rfl, Nat.le_trans hR.size' hlo, hb⟩, ⟨b, rfl, hlo, hb.lt⟩⟩)
 refine Ask.fresh rfl rfl ?_
 intro aq wq hNq hO hR hT
 exact does_alloc zero_32 (fun b w2 he hlo hb => ⟨he, ⟨b, rfl, Nat.le_trans hR.size' hlo, hb⟩, ⟨b, rfl, hlo, hb.lt⟩⟩)
 intro a1 wd1 N1 D1 hO hR hA hU
 obtain ⟨t4, t7, t8, _⟩ := hA
 have E1 := E0.trans hR
 have s1_1 := oT hO s1_0 rfl
 have s2_1 := oT hO s2_0 rfl
 obtain ⟨b4, s4_1, lo_b4, B4_1⟩ := t4
 have fr_b4 : w0.heap.size ≤ b4 := Nat.le_trans E0.size' lo_b4
 obtain ⟨b7, s7_1, lo_b7, B7_1⟩ := t7
 have fr_b7 : w0.heap.size ≤ b7 := Nat.le_trans E0.size' lo_b7
 obtain ⟨b8, s8_1, lo_b8, B8_1⟩ := t8
 have fr_b8 : w0.heap.size ≤ b8 := Nat.le_trans E0.size' lo_b8
 obtain ⟨u0, ⟨u1, ⟨u2, _⟩⟩⟩ := hU
 have ne_b4_b7 : b4 ≠ b7 := fun e => u0 7 (by decide) (by rw [s4_1, s7_1, e])
 have ne_b4_b8 : b4 ≠ b8 := fun e => u0 8 (by decide) (by rw [s4_1, s8_1, e])
 have ne_b7_b8 : b7 ≠ b8 := fun e => u1 8 (by decide) (by rw [s7_1, s8_1, e])
 clear E0 N0 D0 s0_0 s1_0 s2_0 s3_0
 refine tail_nil ?_
 refine wp_seq ?_
 refine Rl [9] [(14, Pr.ex (Dg.val (seed))), (15, Pr.ex (i64 (n : Int))), (16, Pr.ex (Value.tuple #[Dg.val (root (publics seed (pw n))), i64 ((0 : Nat) : Int)])), (13, Pr.ex (Value.tuple #[Dg.val (root (publics seed (pw n))), i64 ((0 : Nat) : Int)])), (17, Pr.ex (Dg.val (root (publics seed (pw n))))), (18, Pr.ex (i64 ((0 : Nat) : Int))), (9, Pr.box' wd1.heap.size 24 [w32 (Dg.zero).a, w32 (Dg.zero).b, w32 (Dg.zero).c, w32 (Dg.zero).d])] 7 N1 D1 ?_ ?_
 refine Ac ?_ (Ac ?_ (Ac ?_ (Ac ?_ (Ac ?_ (Ac ?_ (Ac ?_ (Az _)))))))
 exact Ap fun aq wq _ hO hR hT => does_loadD (o := 0) (n := 4) (mid := [w32 (seed).a, w32 (seed).b, w32 (seed).c, w32 (seed).d]) (oT hO s4_1 rfl) (B4_1.ext' hR) rfl rfl (nB rfl) row_24 rfl eR
 exact Am s1_1 rfl fun _ => rfl
 exact Ap fun aq wq _ hO hR hT => does_ret (vs := #[Dg.val (seed), i64 (n : Int)]) call_28 (args2 (hT 14 rfl rfl) (hT 15 rfl rfl)) rfl ((keyPubR_k seed n wq hn).mono fun v w2 h => ⟨h.2, h.1⟩)
 exact Ap fun aq wq _ hO hR hT => does_move (V := Value.tuple #[Dg.val (root (publics seed (pw n))), i64 ((0 : Nat) : Int)]) (hT 16 rfl rfl) eR
 exact Ap fun aq wq _ hO hR hT => does_extract (V := Dg.val (root (publics seed (pw n)))) (hT 13 rfl rfl) rfl eR
 exact Ap fun aq wq _ hO hR hT => does_extract (V := i64 ((0 : Nat) : Int)) (hT 13 rfl rfl) rfl eR
 refine Ask.fresh rfl rfl ?_
 intro aq wq hNq hO hR hT
 exact does_alloc zero_24 (fun b w2 he hlo hb => ⟨he, ⟨b, rfl, Nat.le_trans hR.size' hlo, hb⟩, ⟨b, rfl, hlo, hb.lt⟩⟩)
 intro a2 wd2 N2 D2 hO hR hA hU
 obtain ⟨_, _, _, _, t17, t18, t9, _⟩ := hA
 have E2 := E1.trans hR
 have s1_2 := oT hO s1_1 rfl
 have s2_2 := oT hO s2_1 rfl
 have s4_2 := oT hO s4_1 rfl
 have s7_2 := oT hO s7_1 rfl
 have s8_2 := oT hO s8_1 rfl
 have B4_2 := B4_1.ext' hR
 have B7_2 := B7_1.ext' hR
 have B8_2 := B8_1.ext' hR
 have s17_2 : get a2 17 = Dg.val (root (publics seed (pw n))) := t17
 have s18_2 : get a2 18 = i64 ((0 : Nat) : Int) := t18
 obtain ⟨b9, s9_2, lo_b9, B9_2⟩ := t9
 have ne_b4_b9 := Hl B4_1 lo_b9
 have ne_b7_b9 := Hl B7_1 lo_b9
 have ne_b8_b9 := Hl B8_1 lo_b9
 have fr_b9 : w0.heap.size ≤ b9 := Nat.le_trans E1.size' lo_b9
 clear E1 N1 D1 s1_1 s2_1 s4_1 s7_1 s8_1 B4_1 B7_1 B8_1
 refine tail_none rfl rfl (does_storeD (o := 0) (n := 4) (cs' := [w32 (root (publics seed (pw n))).a, w32 (root (publics seed (pw n))).b, w32 (root (publics seed (pw n))).c, w32 (root (publics seed (pw n))).d]) (V := Dg.val (root (publics seed (pw n)))) s9_2 s17_2 B9_2 (nB rfl) rfl siz_24 rfl rfl (fun wd3 hX hz B9_3 => ?_))
 have E3 := E2.since hX (fun k e => e ▸ fr_b9)
 have B4_3 := B4_2.ext hX ne_b4_b9
 have B7_3 := B7_2.ext hX ne_b7_b9
 have B8_3 := B8_2.ext hX ne_b8_b9
 clear hX hz E2 B4_2 B7_2 B8_2 B9_2
 refine tail_put rfl rfl N2 D2 (by decide) (does_assign (V := i64 ((0 : Nat) : Int)) s18_2 (fun a4 N4 D4 hv hO => ?_))
 have s10_4 := hv
 have s1_4 := oT hO s1_2 rfl
 have s2_4 := oT hO s2_2 rfl
 have s4_4 := oT hO s4_2 rfl
 have s7_4 := oT hO s7_2 rfl
 have s8_4 := oT hO s8_2 rfl
 have s9_4 := oT hO s9_2 rfl
 clear hO hv N2 D2 s1_2 s2_2 s4_2 s7_2 s8_2 s9_2 s17_2 s18_2
 refine tail_nil ?_
 refine wp_seq ?_
 refine region_late [11] [(20, Pr.ex (Dg.val (seed))), (21, Pr.ex (i64 (n : Int))), (22, Pr.ex (i64 (j : Int))), (23, Pr.ex (Value.agg #[w32 (r).a, w32 (r).b, w32 (r).c, w32 (r).d, w32 (o).a, w32 (o).b, w32 (o).c, w32 (o).d])), (24, Pr.ex (Dg.val (linkOf r o))), (25, Pr.t2 (Pr.ag2 (fun x y => Value.agg #[i64 (j : Int), x, y]) (Pr.own' DG wd3.heap.size 24 (signed (seedAt seed j) (linkOf r o))) (Pr.own' DG wd3.heap.size 24 (way (publics seed (pw n)) j))) (Pr.ex (i64 ((0 : Nat) : Int)))), (19, Pr.t2 (Pr.ag2 (fun x y => Value.agg #[i64 (j : Int), x, y]) (Pr.own' DG wd3.heap.size 24 (signed (seedAt seed j) (linkOf r o))) (Pr.own' DG wd3.heap.size 24 (way (publics seed (pw n)) j))) (Pr.ex (i64 ((0 : Nat) : Int)))), (26, Pr.ag2 (fun x y => Value.agg #[i64 (j : Int), x, y]) (Pr.own' DG wd3.heap.size 24 (signed (seedAt seed j) (linkOf r o))) (Pr.own' DG wd3.heap.size 24 (way (publics seed (pw n)) j))), (27, Pr.ex (i64 ((0 : Nat) : Int))), (11, Pr.box' wd3.heap.size 30 [i64 ((0 : Nat) : Int), Value.slice none 0 0, Value.slice none 0 0])] 10 [8] (fun k => wd3.heap.size ≤ k) mixed N4 D4 (by kernel_rfl) (by kernel_rfl) (by kernel_rfl) (by kernel_rfl) (fun d v c a w h => by cases d <;> exact h) ?_ ?_ ?_
 refine Ac ?_ (Ac ?_ (Ac ?_ (Ac ?_ (Ac ?_ (Ac ?_ (Ac ?_ (Ac ?_ (Ac ?_ (Ac ?_ (Az _))))))))))
 exact Ad fun aq wq _ hO hR hT => does_loadD (o := 0) (n := 4) (mid := [w32 (seed).a, w32 (seed).b, w32 (seed).c, w32 (seed).d]) (oT hO s4_4 rfl) (B4_3.ext' hR) rfl rfl (nB rfl) row_24 rfl eR
 exact Am s1_4 rfl fun _ => rfl
 exact Am s2_4 rfl fun _ => rfl
 exact Ad fun aq wq _ hO hR hT => does_loadD (o := 0) (n := 8) (mid := [w32 (r).a, w32 (r).b, w32 (r).c, w32 (r).d, w32 (o).a, w32 (o).b, w32 (o).c, w32 (o).d]) (oT hO s7_4 rfl) (B7_3.ext' hR) rfl rfl (nB rfl) row_26 rfl eR
 exact Ad fun aq wq _ hO hR hT => does_ret (vs := #[Value.agg #[w32 (r).a, w32 (r).b, w32 (r).c, w32 (r).d, w32 (o).a, w32 (o).b, w32 (o).c, w32 (o).d]]) call_11 (args1 (hT 23 rfl rfl)) rfl ((linkOfR r o wq).mono fun v w2 h => ⟨h.2, h.1⟩)
 exact Ad fun aq wq _ hO hR hT => does_ret (vs := #[Dg.val (seed), i64 (n : Int), i64 (j : Int), Dg.val (linkOf r o)]) call_29 (args4 (hT 20 rfl rfl) (hT 21 rfl rfl) (hT 22 rfl rfl) (hT 24 rfl rfl)) rfl ((keySignR_k seed n j (linkOf r o) wq hn hj).mono fun v w2 h => ⟨h.2, by obtain ⟨x0, x1, hv, k0, k1⟩ := h.1; exact ⟨x0, x1, hv, (by obtain ⟨z0, z1, hz, kz0, kz1⟩ := k0; exact ⟨z0, z1, hz, OwnT.base kz0 hR.size', OwnT.base kz1 hR.size'⟩), k1⟩⟩)
 exact Ad fun aq wq _ hO hR hT => does_move rfl ⟨Ext.refl _, (hT 25 rfl rfl)⟩
 exact Ad fun aq wq _ hO hR hT => by
  obtain ⟨x0, x1, hv, k0, k1⟩ := (hT 19 rfl rfl)
  exact does_extract hv rfl ⟨Ext.refl _, k0⟩
 exact Ad fun aq wq _ hO hR hT => by
  obtain ⟨x0, x1, hv, k0, k1⟩ := (hT 19 rfl rfl)
  exact does_extract (V := i64 ((0 : Nat) : Int)) hv (by rw [show x1 = i64 ((0 : Nat) : Int) from k1]; rfl) ⟨Ext.refl _, rfl⟩
 refine Ask.fresh rfl rfl ?_
 intro aq wq hNq hO hR hT
 replace hR := (Ext.drew _).trans hR
 exact does_alloc zero_30 (fun b w2 he hlo hb => ⟨he, ⟨b, rfl, Nat.le_trans hR.size' hlo, hb⟩, ⟨b, rfl, hlo, hb.lt⟩⟩)
 refine LateAsks.cons rfl rfl rfl ?_ LateAsks.nil
 intro aq wq hO hR hT
 have hR0 := hR
 replace hR := (Ext.drew _).trans hR
 obtain ⟨x0, x1, hv, k0, k1⟩ := (hT 19 rfl rfl)
 exact ⟨_, yl_extract (V := i64 ((0 : Nat) : Int)) hv (by rw [show x1 = i64 ((0 : Nat) : Int) from k1]; rfl), rfl⟩
 intro wl hwl hwh a5 wd5 N5 D5 hO hR hA hU
 have hS_5 : ExtE (fun k => wd3.heap.size ≤ k) wl wd5 := hR.toE
 replace hR := hwl.trans hR
 obtain ⟨_, _, _, _, _, _, _, t26, t27, t11, _⟩ := hA
 have E5 := E3.trans hR
 have s8_5 := oT hO s8_4 rfl
 have s9_5 := oT hO s9_4 rfl
 have B4_5 := B4_3.ext' hR
 have B7_5 := B7_3.ext' hR
 have B8_5 := B8_3.ext' hR
 have B9_5 := B9_3.ext' hR
 obtain ⟨x26_0_5, x26_1_5, s26_5, ky26_0_5, ky26_1_5⟩ := t26
 replace ky26_0_5 : OwnT DG wd3.heap.size 24 (signed (seedAt seed j) (linkOf r o)) x26_0_5 wd5 := ky26_0_5
 have nbo_x26_0_5_b4 := Ob1 ky26_0_5 B4_3
 have nbo_x26_0_5_b7 := Ob1 ky26_0_5 B7_3
 have nbo_x26_0_5_b8 := Ob1 ky26_0_5 B8_3
 have nbo_x26_0_5_b9 := Ob1 ky26_0_5 B9_3
 have X26_0_5_5 := ky26_0_5.sl.wide (Nat.zero_le _) (.inl rfl)
 have O26_0_5_5 := OwnT.base ky26_0_5 E3.size'
 replace ky26_1_5 : OwnT DG wd3.heap.size 24 (way (publics seed (pw n)) j) x26_1_5 wd5 := ky26_1_5
 have nbo_x26_1_5_b4 := Ob1 ky26_1_5 B4_3
 have nbo_x26_1_5_b7 := Ob1 ky26_1_5 B7_3
 have nbo_x26_1_5_b8 := Ob1 ky26_1_5 B8_3
 have nbo_x26_1_5_b9 := Ob1 ky26_1_5 B9_3
 have X26_1_5_5 := ky26_1_5.sl.wide (Nat.zero_le _) (.inl rfl)
 have O26_1_5_5 := OwnT.base ky26_1_5 E3.size'
 have s27_5 : get a5 27 = i64 ((0 : Nat) : Int) := t27
 obtain ⟨b11, s11_5, lo_b11, B11_5⟩ := t11
 have ne_b4_b11 := Hl B4_3 lo_b11
 have ne_b7_b11 := Hl B7_3 lo_b11
 have ne_b8_b11 := Hl B8_3 lo_b11
 have ne_b9_b11 := Hl B9_3 lo_b11
 have fr_b11 : w0.heap.size ≤ b11 := Nat.le_trans E3.size' lo_b11
 have nbo_x26_0_5_b11 := OwnT.typed O26_0_5_5 B11_5 (by decide)
 have nbo_x26_1_5_b11 := OwnT.typed O26_1_5_5 B11_5 (by decide)
 clear E3 N4 D4 s1_4 s2_4 s4_4 s7_4 s8_4 s9_4 s10_4 B4_3 B7_3 B8_3 B9_3
 refine tailS_none rfl rfl (does_storeD (o := 0) (n := 3) (cs' := [i64 (j : Int), x26_0_5, x26_1_5]) (V := Value.agg #[i64 (j : Int), x26_0_5, x26_1_5]) s11_5 s26_5 B11_5 (nB rfl) rfl siz_30 (one_cons rfl (one_cons (SlT.one X26_0_5_5) (one_cons (SlT.one X26_1_5_5) one_nil))) rfl (fun wd6 hX hz B11_6 => ⟨hS_5.trans (hX.mono fun k _ e => (e ▸ (Nat.le_trans (Nat.le_refl _) lo_b11))), ?_⟩))
 have hS_6 := hS_5.trans (hX.mono (E' := (fun k => wd3.heap.size ≤ k)) fun k _ e => (e ▸ (Nat.le_trans (Nat.le_refl _) lo_b11)))
 have E6 := E5.since hX (fun k e => e ▸ fr_b11)
 have B4_6 := B4_5.ext hX ne_b4_b11
 have B7_6 := B7_5.ext hX ne_b7_b11
 have B8_6 := B8_5.ext hX ne_b8_b11
 have B9_6 := B9_5.ext hX ne_b9_b11
 have X26_0_5_6 := SlT.over X26_0_5_5 hX (fun _ => nbo_x26_0_5_b11)
 have X26_1_5_6 := SlT.over X26_1_5_5 hX (fun _ => nbo_x26_1_5_b11)
 have O26_0_5_6 := OwnT.ext O26_0_5_5 hX (fun k hk e => nbo_x26_0_5_b11 (e ▸ hk))
 have O26_1_5_6 := OwnT.ext O26_1_5_5 hX (fun k hk e => nbo_x26_1_5_b11 (e ▸ hk))
 clear hX hz E5 B4_5 B7_5 B8_5 B9_5 B11_5 X26_0_5_5 X26_1_5_5 O26_0_5_5 O26_1_5_5
 refine tailS_put rfl rfl N5 D5 (by decide) (does_assign (V := i64 ((0 : Nat) : Int)) s27_5 (⟨hS_6, fun a7 N7 D7 hv hO => ?_⟩))
 have s12_7 := hv
 have s8_7 := oT hO s8_5 rfl
 have s9_7 := oT hO s9_5 rfl
 have s11_7 := oT hO s11_5 rfl
 clear hO hv N5 D5 s8_5 s9_5 s11_5 s26_5 s27_5
 refine tailS_nil ?_
 refine wp_seq ?_
 refine Rl [] [(28, Pr.ex (Dg.val (root (publics seed (pw n))))), (29, Pr.ex (Value.agg #[i64 (j : Int), x26_0_5, x26_1_5])), (30, Pr.ex (Value.agg #[w32 (root (publics seed (pw n))).a, w32 (root (publics seed (pw n))).b, w32 (root (publics seed (pw n))).c, w32 (root (publics seed (pw n))).d, i64 (j : Int), x26_0_5, x26_1_5]))] 3 N7 D7 ?_ ?_
 refine Ac ?_ (Ac ?_ (Ac ?_ (Az _)))
 exact Ap fun aq wq _ hO hR hT => does_loadD (o := 0) (n := 4) (mid := [w32 (root (publics seed (pw n))).a, w32 (root (publics seed (pw n))).b, w32 (root (publics seed (pw n))).c, w32 (root (publics seed (pw n))).d]) (oT hO s9_7 rfl) (B9_6.ext' hR) rfl rfl (nB rfl) row_24 rfl eR
 exact Ap fun aq wq _ hO hR hT => does_loadD (o := 0) (n := 3) (mid := [i64 (j : Int), x26_0_5, x26_1_5]) (oT hO s11_7 rfl) (B11_6.ext' hR) rfl rfl (nB rfl) row_30 rfl eR
 exact Ap fun aq wq _ hO hR hT => does_build (vs := #[(0, Dg.val (root (publics seed (pw n)))), (1, Value.agg #[i64 (j : Int), x26_0_5, x26_1_5])]) (V := Value.agg #[w32 (root (publics seed (pw n))).a, w32 (root (publics seed (pw n))).b, w32 (root (publics seed (pw n))).c, w32 (root (publics seed (pw n))).d, i64 (j : Int), x26_0_5, x26_1_5]) (parts2 (hT 28 rfl rfl) (hT 29 rfl rfl)) (by kernel_rfl) eR
 intro a8 wd8 N8 D8 hO hR hA hU
 obtain ⟨_, _, t30, _⟩ := hA
 have E8 := E6.trans hR
 have s8_8 := oT hO s8_7 rfl
 have B4_8 := B4_6.ext' hR
 have B7_8 := B7_6.ext' hR
 have B8_8 := B8_6.ext' hR
 have B9_8 := B9_6.ext' hR
 have B11_8 := B11_6.ext' hR
 have X26_0_5_8 := X26_0_5_6.ext' hR
 have X26_1_5_8 := X26_1_5_6.ext' hR
 have O26_0_5_8 := O26_0_5_6.ext' hR
 have O26_1_5_8 := O26_1_5_6.ext' hR
 have s30_8 : get a8 30 = Value.agg #[w32 (root (publics seed (pw n))).a, w32 (root (publics seed (pw n))).b, w32 (root (publics seed (pw n))).c, w32 (root (publics seed (pw n))).d, i64 (j : Int), x26_0_5, x26_1_5] := t30
 clear E6 N7 D7 s8_7 s9_7 s11_7 s12_7 B4_6 B7_6 B8_6 B9_6 B11_6 X26_0_5_6 X26_1_5_6 O26_0_5_6 O26_1_5_6
 refine tail_none rfl rfl (does_storeD (o := 0) (n := 7) (cs' := [w32 (root (publics seed (pw n))).a, w32 (root (publics seed (pw n))).b, w32 (root (publics seed (pw n))).c, w32 (root (publics seed (pw n))).d, i64 (j : Int), x26_0_5, x26_1_5]) (V := Value.agg #[w32 (root (publics seed (pw n))).a, w32 (root (publics seed (pw n))).b, w32 (root (publics seed (pw n))).c, w32 (root (publics seed (pw n))).d, i64 (j : Int), x26_0_5, x26_1_5]) s8_8 s30_8 B8_8 (nB rfl) rfl siz_32 (one_cons rfl (one_cons rfl (one_cons rfl (one_cons rfl (one_cons rfl (one_cons (SlT.one X26_0_5_8) (one_cons (SlT.one X26_1_5_8) one_nil))))))) rfl (fun wd9 hX hz B8_9 => ?_))
 have E9 := E8.since hX (fun k e => e ▸ fr_b8)
 have B4_9 := B4_8.ext hX ne_b4_b8
 have B7_9 := B7_8.ext hX ne_b7_b8
 have B9_9 := B9_8.ext hX ne_b8_b9.symm
 have B11_9 := B11_8.ext hX ne_b8_b11.symm
 have X26_0_5_9 := SlT.over X26_0_5_8 hX (fun _ => nbo_x26_0_5_b8)
 have X26_1_5_9 := SlT.over X26_1_5_8 hX (fun _ => nbo_x26_1_5_b8)
 have O26_0_5_9 := OwnT.ext O26_0_5_8 hX (fun k hk e => nbo_x26_0_5_b8 (e ▸ hk))
 have O26_1_5_9 := OwnT.ext O26_1_5_8 hX (fun k hk e => nbo_x26_1_5_b8 (e ▸ hk))
 clear hX hz E8 B4_8 B7_8 B8_8 B9_8 B11_8 X26_0_5_8 X26_1_5_8 O26_0_5_8 O26_1_5_8
 refine tail_nil ?_
 refine wp_ret ?_
 refine res_one (V := Value.agg #[w32 (root (publics seed (pw n))).a, w32 (root (publics seed (pw n))).b, w32 (root (publics seed (pw n))).c, w32 (root (publics seed (pw n))).d, i64 (j : Int), x26_0_5, x26_1_5]) rfl D8 (ResIs.cell s8_8 B8_9 row_32 rfl rfl) ?_
 exact ⟨⟨_, _, rfl, O26_0_5_9, O26_1_5_9⟩, E9⟩

theorem awake44  (w0 : World) (hL : Laid w0) :
    Gives Tryd.prog 8 #[] w0 (Pr.ex (Value.bool true)) := by
 refine enter (N := 37) Tryd.func8 rfl rfl ?_
 intro a0 N0 D0 hA
 clear hA
 have E0 : Ext w0 w0 := Ext.refl w0
 refine wp_seq ?_
 refine Rl [] [(0, Pr.ex (Value.bool (false)))] 1 N0 D0 ?_ ?_
 refine Ac ?_ (Az _)
 exact Ap fun aq wq _ hO hR hT => does_assign (V := Value.bool (false)) rfl eR
 intro a1 wd1 N1 D1 hO hR hA hU
 obtain ⟨_, _⟩ := hA
 have E1 := E0.trans hR
 clear E0 N0 D0
 refine tail_nil ?_
 refine wp_seq ?_
 refine Rl [1] [(4, Pr.ex (Dg.val (dgE))), (5, Pr.ex (Dg.val (dgF))), (6, Pr.ex (Value.agg #[w32 (dgE).a, w32 (dgE).b, w32 (dgE).c, w32 (dgE).d, w32 (dgF).a, w32 (dgF).b, w32 (dgF).c, w32 (dgF).d])), (1, Pr.box' wd1.heap.size 26 [w32 (Dg.zero).a, w32 (Dg.zero).b, w32 (Dg.zero).c, w32 (Dg.zero).d, w32 (Dg.zero).a, w32 (Dg.zero).b, w32 (Dg.zero).c, w32 (Dg.zero).d])] 4 N1 D1 ?_ ?_
 refine Ac ?_ (Ac ?_ (Ac ?_ (Ac ?_ (Az _))))
 exact Ap fun aq wq _ hO hR hT => does_build (vs := #[(0, w32 (1))]) (V := Dg.val (dgE)) (parts1 rfl) (by kernel_rfl) eR
 exact Ap fun aq wq _ hO hR hT => does_build (vs := #[(0, w32 (2))]) (V := Dg.val (dgF)) (parts1 rfl) (by kernel_rfl) eR
 exact Ap fun aq wq _ hO hR hT => does_build (vs := #[(0, Dg.val (dgE)), (1, Dg.val (dgF))]) (V := Value.agg #[w32 (dgE).a, w32 (dgE).b, w32 (dgE).c, w32 (dgE).d, w32 (dgF).a, w32 (dgF).b, w32 (dgF).c, w32 (dgF).d]) (parts2 (hT 4 rfl rfl) (hT 5 rfl rfl)) (by kernel_rfl) eR
 refine Ask.fresh rfl rfl ?_
 intro aq wq hNq hO hR hT
 exact does_alloc zero_26 (fun b w2 he hlo hb => ⟨he, ⟨b, rfl, Nat.le_trans hR.size' hlo, hb⟩, ⟨b, rfl, hlo, hb.lt⟩⟩)
 intro a2 wd2 N2 D2 hO hR hA hU
 obtain ⟨_, _, t6, t1, _⟩ := hA
 have E2 := E1.trans hR
 have s6_2 : get a2 6 = Value.agg #[w32 (dgE).a, w32 (dgE).b, w32 (dgE).c, w32 (dgE).d, w32 (dgF).a, w32 (dgF).b, w32 (dgF).c, w32 (dgF).d] := t6
 obtain ⟨b1, s1_2, lo_b1, B1_2⟩ := t1
 have fr_b1 : w0.heap.size ≤ b1 := Nat.le_trans E1.size' lo_b1
 clear E1 N1 D1
 refine tail_none rfl rfl (does_storeD (o := 0) (n := 8) (cs' := [w32 (dgE).a, w32 (dgE).b, w32 (dgE).c, w32 (dgE).d, w32 (dgF).a, w32 (dgF).b, w32 (dgF).c, w32 (dgF).d]) (V := Value.agg #[w32 (dgE).a, w32 (dgE).b, w32 (dgE).c, w32 (dgE).d, w32 (dgF).a, w32 (dgF).b, w32 (dgF).c, w32 (dgF).d]) s1_2 s6_2 B1_2 (nB rfl) rfl siz_26 rfl rfl (fun wd3 hX hz B1_3 => ?_))
 have E3 := E2.since hX (fun k e => e ▸ fr_b1)
 clear hX hz E2 B1_2
 refine tail_nil ?_
 refine wp_seq ?_
 refine Rl [] [(7, Pr.ex (Dg.val (dgC))), (8, Pr.ex (Value.agg #[w32 (dgE).a, w32 (dgE).b, w32 (dgE).c, w32 (dgE).d, w32 (dgF).a, w32 (dgF).b, w32 (dgF).c, w32 (dgF).d])), (9, Pr.ag2 (fun x y => Value.agg #[w32 (root (publics (dgC) (pw 0))).a, w32 (root (publics (dgC) (pw 0))).b, w32 (root (publics (dgC) (pw 0))).c, w32 (root (publics (dgC) (pw 0))).d, i64 ((0 : Nat) : Int), x, y]) (Pr.own' DG wd3.heap.size 24 (signed (seedAt (dgC) 0) (linkOf (dgE) (dgF)))) (Pr.own' DG wd3.heap.size 24 (way (publics (dgC) (pw 0)) 0)))] 3 N2 D2 ?_ ?_
 refine Ac ?_ (Ac ?_ (Ac ?_ (Az _)))
 exact Ap fun aq wq _ hO hR hT => does_build (vs := #[(0, w32 (3))]) (V := Dg.val (dgC)) (parts1 rfl) (by kernel_rfl) eR
 exact Ap fun aq wq _ hO hR hT => does_loadD (o := 0) (n := 8) (mid := [w32 (dgE).a, w32 (dgE).b, w32 (dgE).c, w32 (dgE).d, w32 (dgF).a, w32 (dgF).b, w32 (dgF).c, w32 (dgF).d]) (oT hO s1_2 rfl) (B1_3.ext' hR) rfl rfl (nB rfl) row_26 rfl eR
 exact Ap fun aq wq _ hO hR hT => does_ret (vs := #[Dg.val (dgC), i64 ((0 : Nat) : Int), i64 ((0 : Nat) : Int), Value.agg #[w32 (dgE).a, w32 (dgE).b, w32 (dgE).c, w32 (dgE).d, w32 (dgF).a, w32 (dgF).b, w32 (dgF).c, w32 (dgF).d]]) call_16 (args4 (hT 7 rfl rfl) rfl rfl (hT 8 rfl rfl)) rfl ((say_ (dgC) 0 0 (dgE) (dgF) wq (by decide) (by decide)).mono fun v w2 h => ⟨h.2, (by obtain ⟨z0, z1, hz, kz0, kz1⟩ := h.1; exact ⟨z0, z1, hz, OwnT.base kz0 hR.size', OwnT.base kz1 hR.size'⟩)⟩)
 intro a4 wd4 N4 D4 hO hR hA hU
 obtain ⟨_, _, t9, _⟩ := hA
 have E4 := E3.trans hR
 have s1_4 := oT hO s1_2 rfl
 have B1_4 := B1_3.ext' hR
 obtain ⟨x9_0_4, x9_1_4, s9_4, ky9_0_4, ky9_1_4⟩ := t9
 replace ky9_0_4 : OwnT DG wd3.heap.size 24 (signed (seedAt (dgC) 0) (linkOf (dgE) (dgF))) x9_0_4 wd4 := ky9_0_4
 have nbo_x9_0_4_b1 := Ob1 ky9_0_4 B1_3
 have X9_0_4_4 := ky9_0_4.sl.wide (Nat.zero_le _) (.inl rfl)
 have O9_0_4_4 := OwnT.base ky9_0_4 E3.size'
 replace ky9_1_4 : OwnT DG wd3.heap.size 24 (way (publics (dgC) (pw 0)) 0) x9_1_4 wd4 := ky9_1_4
 have nbo_x9_1_4_b1 := Ob1 ky9_1_4 B1_3
 have X9_1_4_4 := ky9_1_4.sl.wide (Nat.zero_le _) (.inl rfl)
 have O9_1_4_4 := OwnT.base ky9_1_4 E3.size'
 clear E3 N2 D2 s1_2 s6_2 B1_3
 refine tail_put rfl rfl N4 D4 (by decide) (does_alloc zero_32 (fun b2 wd5 he lo_b2 B2_5 => fun a5 N5 D5 hv hO => ?_))
 have s2_5 := hv
 have E5 := E4.trans he
 have B1_5 := B1_4.ext' he
 have X9_0_4_5 := X9_0_4_4.ext' he
 have X9_1_4_5 := X9_1_4_4.ext' he
 have O9_0_4_5 := O9_0_4_4.ext' he
 have O9_1_4_5 := O9_1_4_4.ext' he
 have fr_b2 : w0.heap.size ≤ b2 := Nat.le_trans E4.size' lo_b2
 have ne_b1_b2 := Hl B1_4 lo_b2
 have nb_x9_0_4_b2 := SlT.old X9_0_4_4 lo_b2
 have nb_x9_1_4_b2 := SlT.old X9_1_4_4 lo_b2
 have nbo_x9_0_4_b2 := Ol O9_0_4_4 lo_b2
 have nbo_x9_1_4_b2 := Ol O9_1_4_4 lo_b2
 have s1_5 := oT hO s1_4 rfl
 have s9_5 := oT hO s9_4 rfl
 clear hO hv N4 D4 E4 B1_4 X9_0_4_4 X9_1_4_4 O9_0_4_4 O9_1_4_4 s1_4 s9_4
 refine tail_none rfl rfl (does_storeD (o := 0) (n := 7) (cs' := [w32 (root (publics (dgC) (pw 0))).a, w32 (root (publics (dgC) (pw 0))).b, w32 (root (publics (dgC) (pw 0))).c, w32 (root (publics (dgC) (pw 0))).d, i64 ((0 : Nat) : Int), x9_0_4, x9_1_4]) (V := Value.agg #[w32 (root (publics (dgC) (pw 0))).a, w32 (root (publics (dgC) (pw 0))).b, w32 (root (publics (dgC) (pw 0))).c, w32 (root (publics (dgC) (pw 0))).d, i64 ((0 : Nat) : Int), x9_0_4, x9_1_4]) s2_5 s9_5 B2_5 (nB rfl) rfl siz_32 (one_cons rfl (one_cons rfl (one_cons rfl (one_cons rfl (one_cons rfl (one_cons (SlT.one X9_0_4_5) (one_cons (SlT.one X9_1_4_5) one_nil))))))) rfl (fun wd6 hX hz B2_6 => ?_))
 have E6 := E5.since hX (fun k e => e ▸ fr_b2)
 have B1_6 := B1_5.ext hX ne_b1_b2
 have X9_0_4_6 := SlT.over X9_0_4_5 hX nb_x9_0_4_b2
 have X9_1_4_6 := SlT.over X9_1_4_5 hX nb_x9_1_4_b2
 have O9_0_4_6 := OwnT.ext O9_0_4_5 hX (fun k hk e => nbo_x9_0_4_b2 (e ▸ hk))
 have O9_1_4_6 := OwnT.ext O9_1_4_5 hX (fun k hk e => nbo_x9_1_4_b2 (e ▸ hk))
 clear hX hz E5 B1_5 B2_5 X9_0_4_5 X9_1_4_5 O9_0_4_5 O9_1_4_5
 refine tail_nil ?_
 refine wp_seq ?_
 refine Rl [3] [(10, Pr.ex (Value.agg #[w32 (root (publics (dgC) (pw 0))).a, w32 (root (publics (dgC) (pw 0))).b, w32 (root (publics (dgC) (pw 0))).c, w32 (root (publics (dgC) (pw 0))).d, i64 ((0 : Nat) : Int), x9_0_4, x9_1_4])), (3, Pr.box' wd6.heap.size 32 [w32 (Dg.zero).a, w32 (Dg.zero).b, w32 (Dg.zero).c, w32 (Dg.zero).d, i64 ((0 : Nat) : Int), Value.slice none 0 0, Value.slice none 0 0])] 2 N5 D5 ?_ ?_
 refine Ac ?_ (Ac ?_ (Az _))
 exact Ap fun aq wq _ hO hR hT => does_loadD (o := 0) (n := 7) (mid := [w32 (root (publics (dgC) (pw 0))).a, w32 (root (publics (dgC) (pw 0))).b, w32 (root (publics (dgC) (pw 0))).c, w32 (root (publics (dgC) (pw 0))).d, i64 ((0 : Nat) : Int), x9_0_4, x9_1_4]) (oT hO s2_5 rfl) (B2_6.ext' hR) rfl rfl (nB rfl) row_32 rfl eR
 refine Ask.fresh rfl rfl ?_
 intro aq wq hNq hO hR hT
 exact does_alloc zero_32 (fun b w2 he hlo hb => ⟨he, ⟨b, rfl, Nat.le_trans hR.size' hlo, hb⟩, ⟨b, rfl, hlo, hb.lt⟩⟩)
 intro a7 wd7 N7 D7 hO hR hA hU
 obtain ⟨t10, t3, _⟩ := hA
 have E7 := E6.trans hR
 have s1_7 := oT hO s1_5 rfl
 have s2_7 := oT hO s2_5 rfl
 have B1_7 := B1_6.ext' hR
 have B2_7 := B2_6.ext' hR
 have X9_0_4_7 := X9_0_4_6.ext' hR
 have X9_1_4_7 := X9_1_4_6.ext' hR
 have O9_0_4_7 := O9_0_4_6.ext' hR
 have O9_1_4_7 := O9_1_4_6.ext' hR
 have s10_7 : get a7 10 = Value.agg #[w32 (root (publics (dgC) (pw 0))).a, w32 (root (publics (dgC) (pw 0))).b, w32 (root (publics (dgC) (pw 0))).c, w32 (root (publics (dgC) (pw 0))).d, i64 ((0 : Nat) : Int), x9_0_4, x9_1_4] := t10
 obtain ⟨b3, s3_7, lo_b3, B3_7⟩ := t3
 have ne_b1_b3 := Hl B1_6 lo_b3
 have ne_b2_b3 := Hl B2_6 lo_b3
 have nb_x9_0_4_b3 := SlT.old X9_0_4_6 lo_b3
 have nb_x9_1_4_b3 := SlT.old X9_1_4_6 lo_b3
 have nbo_x9_0_4_b3 := Ol O9_0_4_6 lo_b3
 have nbo_x9_1_4_b3 := Ol O9_1_4_6 lo_b3
 have fr_b3 : w0.heap.size ≤ b3 := Nat.le_trans E6.size' lo_b3
 clear E6 N5 D5 s1_5 s2_5 s9_5 B1_6 B2_6 X9_0_4_6 X9_1_4_6 O9_0_4_6 O9_1_4_6
 refine tail_none rfl rfl (does_storeD (o := 0) (n := 7) (cs' := [w32 (root (publics (dgC) (pw 0))).a, w32 (root (publics (dgC) (pw 0))).b, w32 (root (publics (dgC) (pw 0))).c, w32 (root (publics (dgC) (pw 0))).d, i64 ((0 : Nat) : Int), x9_0_4, x9_1_4]) (V := Value.agg #[w32 (root (publics (dgC) (pw 0))).a, w32 (root (publics (dgC) (pw 0))).b, w32 (root (publics (dgC) (pw 0))).c, w32 (root (publics (dgC) (pw 0))).d, i64 ((0 : Nat) : Int), x9_0_4, x9_1_4]) s3_7 s10_7 B3_7 (nB rfl) rfl siz_32 (one_cons rfl (one_cons rfl (one_cons rfl (one_cons rfl (one_cons rfl (one_cons (SlT.one X9_0_4_7) (one_cons (SlT.one X9_1_4_7) one_nil))))))) rfl (fun wd8 hX hz B3_8 => ?_))
 have E8 := E7.since hX (fun k e => e ▸ fr_b3)
 have B1_8 := B1_7.ext hX ne_b1_b3
 have B2_8 := B2_7.ext hX ne_b2_b3
 have X9_0_4_8 := SlT.over X9_0_4_7 hX nb_x9_0_4_b3
 have X9_1_4_8 := SlT.over X9_1_4_7 hX nb_x9_1_4_b3
 have O9_0_4_8 := OwnT.ext O9_0_4_7 hX (fun k hk e => nbo_x9_0_4_b3 (e ▸ hk))
 have O9_1_4_8 := OwnT.ext O9_1_4_7 hX (fun k hk e => nbo_x9_1_4_b3 (e ▸ hk))
 clear hX hz E7 B1_7 B2_7 B3_7 X9_0_4_7 X9_1_4_7 O9_0_4_7 O9_1_4_7
 refine tail_nil ?_
 refine wp_seq ?_
 refine Rl [] [(11, Pr.ex (Dg.val (dgC))), (12, Pr.ex (Value.pointer (some ⟨b3, 0, none⟩)))] 2 N7 D7 ?_ ?_
 refine Ac ?_ (Ac ?_ (Az _))
 exact Ap fun aq wq _ hO hR hT => does_build (vs := #[(0, w32 (3))]) (V := Dg.val (dgC)) (parts1 rfl) (by kernel_rfl) eR
 exact Ap fun aq wq _ hO hR hT => does_field (o' := 0) fld_32_0 (oT hO s3_7 rfl) rfl eR
 intro a9 wd9 N9 D9 hO hR hA hU
 obtain ⟨t11, t12, _⟩ := hA
 have E9 := E8.trans hR
 have s1_9 := oT hO s1_7 rfl
 have s2_9 := oT hO s2_7 rfl
 have s3_9 := oT hO s3_7 rfl
 have B1_9 := B1_8.ext' hR
 have B2_9 := B2_8.ext' hR
 have B3_9 := B3_8.ext' hR
 have X9_0_4_9 := X9_0_4_8.ext' hR
 have X9_1_4_9 := X9_1_4_8.ext' hR
 have O9_0_4_9 := O9_0_4_8.ext' hR
 have O9_1_4_9 := O9_1_4_8.ext' hR
 have s11_9 : get a9 11 = Dg.val (dgC) := t11
 have s12_9 : get a9 12 = Value.pointer (some ⟨b3, 0, none⟩) := t12
 clear E8 N7 D7 s1_7 s2_7 s3_7 s10_7 B1_8 B2_8 B3_8 X9_0_4_8 X9_1_4_8 O9_0_4_8 O9_1_4_8
 refine tail_none rfl rfl (does_storeD (o := 0) (n := 4) (cs' := [w32 (dgC).a, w32 (dgC).b, w32 (dgC).c, w32 (dgC).d, i64 ((0 : Nat) : Int), x9_0_4, x9_1_4]) (V := Dg.val (dgC)) s12_9 s11_9 B3_9 (nB rfl) rfl siz_24 rfl rfl (fun wd10 hX hz B3_10 => ?_))
 have E10 := E9.since hX (fun k e => e ▸ fr_b3)
 have B1_10 := B1_9.ext hX ne_b1_b3
 have B2_10 := B2_9.ext hX ne_b2_b3
 have X9_0_4_10 := SlT.over X9_0_4_9 hX nb_x9_0_4_b3
 have X9_1_4_10 := SlT.over X9_1_4_9 hX nb_x9_1_4_b3
 have O9_0_4_10 := OwnT.ext O9_0_4_9 hX (fun k hk e => nbo_x9_0_4_b3 (e ▸ hk))
 have O9_1_4_10 := OwnT.ext O9_1_4_9 hX (fun k hk e => nbo_x9_1_4_b3 (e ▸ hk))
 clear hX hz E9 B1_9 B2_9 B3_9 X9_0_4_9 X9_1_4_9 O9_0_4_9 O9_1_4_9
 refine tail_nil ?_
 refine wp_seq ?_
 refine Ra [] [(13, Pr.ex (Value.agg #[w32 (dgE).a, w32 (dgE).b, w32 (dgE).c, w32 (dgE).d, w32 (dgF).a, w32 (dgF).b, w32 (dgF).c, w32 (dgF).d])), (14, Pr.ex (Dg.val (linkOf (dgE) (dgF)))), (15, Pr.ex (Value.agg #[w32 (dgE).a, w32 (dgE).b, w32 (dgE).c, w32 (dgE).d, w32 (dgF).a, w32 (dgF).b, w32 (dgF).c, w32 (dgF).d])), (16, Pr.ex (Dg.val (linkOf (dgE) (dgF)))), (17, Pr.ex (Value.bool (decide (linkOf (dgE) (dgF) = linkOf (dgE) (dgF))))), (18, Pr.ex (Value.bool (decide (linkOf (dgE) (dgF) = linkOf (dgE) (dgF))))), (19, Pr.ifb (decide (linkOf (dgE) (dgF) = linkOf (dgE) (dgF))) (Pr.ex (Value.agg #[w32 (dgE).a, w32 (dgE).b, w32 (dgE).c, w32 (dgE).d, w32 (dgF).a, w32 (dgF).b, w32 (dgF).c, w32 (dgF).d]))), (20, Pr.ifb (decide (linkOf (dgE) (dgF) = linkOf (dgE) (dgF))) (Pr.ex (Value.agg #[w32 (root (publics (dgC) (pw 0))).a, w32 (root (publics (dgC) (pw 0))).b, w32 (root (publics (dgC) (pw 0))).c, w32 (root (publics (dgC) (pw 0))).d, i64 ((0 : Nat) : Int), x9_0_4, x9_1_4]))), (21, Pr.ifb (decide (linkOf (dgE) (dgF) = linkOf (dgE) (dgF))) (Pr.ex (Value.bool (keyCheck (root (publics (dgC) (pw 0))) (linkOf (dgE) (dgF)) (((0 : Nat) : Int)) (signed (seedAt (dgC) 0) (linkOf (dgE) (dgF))) (way (publics (dgC) (pw 0)) 0))))), (22, Pr.ex (Value.bool ((decide (linkOf (dgE) (dgF) = linkOf (dgE) (dgF))) && (keyCheck (root (publics (dgC) (pw 0))) (linkOf (dgE) (dgF)) (((0 : Nat) : Int)) (signed (seedAt (dgC) 0) (linkOf (dgE) (dgF))) (way (publics (dgC) (pw 0)) 0))))), (23, Pr.ex (Value.bool ((decide (linkOf (dgE) (dgF) = linkOf (dgE) (dgF))) && (keyCheck (root (publics (dgC) (pw 0))) (linkOf (dgE) (dgF)) (((0 : Nat) : Int)) (signed (seedAt (dgC) 0) (linkOf (dgE) (dgF))) (way (publics (dgC) (pw 0)) 0))))), (24, Pr.ifb ((decide (linkOf (dgE) (dgF) = linkOf (dgE) (dgF))) && (keyCheck (root (publics (dgC) (pw 0))) (linkOf (dgE) (dgF)) (((0 : Nat) : Int)) (signed (seedAt (dgC) 0) (linkOf (dgE) (dgF))) (way (publics (dgC) (pw 0)) 0))) (Pr.ex (Value.agg #[w32 (dgE).a, w32 (dgE).b, w32 (dgE).c, w32 (dgE).d, w32 (dgF).a, w32 (dgF).b, w32 (dgF).c, w32 (dgF).d]))), (25, Pr.ifb ((decide (linkOf (dgE) (dgF) = linkOf (dgE) (dgF))) && (keyCheck (root (publics (dgC) (pw 0))) (linkOf (dgE) (dgF)) (((0 : Nat) : Int)) (signed (seedAt (dgC) 0) (linkOf (dgE) (dgF))) (way (publics (dgC) (pw 0)) 0))) (Pr.ex (Value.agg #[w32 (dgC).a, w32 (dgC).b, w32 (dgC).c, w32 (dgC).d, i64 ((0 : Nat) : Int), x9_0_4, x9_1_4]))), (26, Pr.ifb ((decide (linkOf (dgE) (dgF) = linkOf (dgE) (dgF))) && (keyCheck (root (publics (dgC) (pw 0))) (linkOf (dgE) (dgF)) (((0 : Nat) : Int)) (signed (seedAt (dgC) 0) (linkOf (dgE) (dgF))) (way (publics (dgC) (pw 0)) 0))) (Pr.ex (Value.bool (keyCheck (dgC) (linkOf (dgE) (dgF)) (((0 : Nat) : Int)) (signed (seedAt (dgC) 0) (linkOf (dgE) (dgF))) (way (publics (dgC) (pw 0)) 0))))), (27, Pr.ifb ((decide (linkOf (dgE) (dgF) = linkOf (dgE) (dgF))) && (keyCheck (root (publics (dgC) (pw 0))) (linkOf (dgE) (dgF)) (((0 : Nat) : Int)) (signed (seedAt (dgC) 0) (linkOf (dgE) (dgF))) (way (publics (dgC) (pw 0)) 0))) (Pr.ex (Value.bool (!(keyCheck (dgC) (linkOf (dgE) (dgF)) (((0 : Nat) : Int)) (signed (seedAt (dgC) 0) (linkOf (dgE) (dgF))) (way (publics (dgC) (pw 0)) 0)))))), (28, Pr.ex (Value.bool (((decide (linkOf (dgE) (dgF) = linkOf (dgE) (dgF))) && (keyCheck (root (publics (dgC) (pw 0))) (linkOf (dgE) (dgF)) (((0 : Nat) : Int)) (signed (seedAt (dgC) 0) (linkOf (dgE) (dgF))) (way (publics (dgC) (pw 0)) 0))) && (!(keyCheck (dgC) (linkOf (dgE) (dgF)) (((0 : Nat) : Int)) (signed (seedAt (dgC) 0) (linkOf (dgE) (dgF))) (way (publics (dgC) (pw 0)) 0)))))), (29, Pr.ex (Value.bool (((decide (linkOf (dgE) (dgF) = linkOf (dgE) (dgF))) && (keyCheck (root (publics (dgC) (pw 0))) (linkOf (dgE) (dgF)) (((0 : Nat) : Int)) (signed (seedAt (dgC) 0) (linkOf (dgE) (dgF))) (way (publics (dgC) (pw 0)) 0))) && (!(keyCheck (dgC) (linkOf (dgE) (dgF)) (((0 : Nat) : Int)) (signed (seedAt (dgC) 0) (linkOf (dgE) (dgF))) (way (publics (dgC) (pw 0)) 0)))))), (30, Pr.ifb (((decide (linkOf (dgE) (dgF) = linkOf (dgE) (dgF))) && (keyCheck (root (publics (dgC) (pw 0))) (linkOf (dgE) (dgF)) (((0 : Nat) : Int)) (signed (seedAt (dgC) 0) (linkOf (dgE) (dgF))) (way (publics (dgC) (pw 0)) 0))) && (!(keyCheck (dgC) (linkOf (dgE) (dgF)) (((0 : Nat) : Int)) (signed (seedAt (dgC) 0) (linkOf (dgE) (dgF))) (way (publics (dgC) (pw 0)) 0)))) (Pr.ex (Value.agg #[w32 (dgE).a, w32 (dgE).b, w32 (dgE).c, w32 (dgE).d, w32 (dgF).a, w32 (dgF).b, w32 (dgF).c, w32 (dgF).d]))), (31, Pr.ifb (((decide (linkOf (dgE) (dgF) = linkOf (dgE) (dgF))) && (keyCheck (root (publics (dgC) (pw 0))) (linkOf (dgE) (dgF)) (((0 : Nat) : Int)) (signed (seedAt (dgC) 0) (linkOf (dgE) (dgF))) (way (publics (dgC) (pw 0)) 0))) && (!(keyCheck (dgC) (linkOf (dgE) (dgF)) (((0 : Nat) : Int)) (signed (seedAt (dgC) 0) (linkOf (dgE) (dgF))) (way (publics (dgC) (pw 0)) 0)))) (Pr.ex (Value.agg #[w32 (root (publics (dgC) (pw 0))).a, w32 (root (publics (dgC) (pw 0))).b, w32 (root (publics (dgC) (pw 0))).c, w32 (root (publics (dgC) (pw 0))).d, i64 ((0 : Nat) : Int), x9_0_4, x9_1_4]))), (32, Pr.ifb (((decide (linkOf (dgE) (dgF) = linkOf (dgE) (dgF))) && (keyCheck (root (publics (dgC) (pw 0))) (linkOf (dgE) (dgF)) (((0 : Nat) : Int)) (signed (seedAt (dgC) 0) (linkOf (dgE) (dgF))) (way (publics (dgC) (pw 0)) 0))) && (!(keyCheck (dgC) (linkOf (dgE) (dgF)) (((0 : Nat) : Int)) (signed (seedAt (dgC) 0) (linkOf (dgE) (dgF))) (way (publics (dgC) (pw 0)) 0)))) (Pr.ex (Value.agg #[w32 (dgE).a, w32 (dgE).b, w32 (dgE).c, w32 (dgE).d, w32 (dgF).a, w32 (dgF).b, w32 (dgF).c, w32 (dgF).d]))), (33, Pr.ifb (((decide (linkOf (dgE) (dgF) = linkOf (dgE) (dgF))) && (keyCheck (root (publics (dgC) (pw 0))) (linkOf (dgE) (dgF)) (((0 : Nat) : Int)) (signed (seedAt (dgC) 0) (linkOf (dgE) (dgF))) (way (publics (dgC) (pw 0)) 0))) && (!(keyCheck (dgC) (linkOf (dgE) (dgF)) (((0 : Nat) : Int)) (signed (seedAt (dgC) 0) (linkOf (dgE) (dgF))) (way (publics (dgC) (pw 0)) 0)))) (Pr.ex (Value.agg #[w32 (root (publics (dgC) (pw 0))).a, w32 (root (publics (dgC) (pw 0))).b, w32 (root (publics (dgC) (pw 0))).c, w32 (root (publics (dgC) (pw 0))).d, i64 ((0 : Nat) : Int), x9_0_4, x9_1_4]))), (34, Pr.ifb (((decide (linkOf (dgE) (dgF) = linkOf (dgE) (dgF))) && (keyCheck (root (publics (dgC) (pw 0))) (linkOf (dgE) (dgF)) (((0 : Nat) : Int)) (signed (seedAt (dgC) 0) (linkOf (dgE) (dgF))) (way (publics (dgC) (pw 0)) 0))) && (!(keyCheck (dgC) (linkOf (dgE) (dgF)) (((0 : Nat) : Int)) (signed (seedAt (dgC) 0) (linkOf (dgE) (dgF))) (way (publics (dgC) (pw 0)) 0)))) (Pr.ex (Value.bool (twiceB (root (publics (dgC) (pw 0))) (dgE) (dgF) (((0 : Nat) : Int)) (signed (seedAt (dgC) 0) (linkOf (dgE) (dgF))) (way (publics (dgC) (pw 0)) 0) (root (publics (dgC) (pw 0))) (dgE) (dgF) (((0 : Nat) : Int)) (signed (seedAt (dgC) 0) (linkOf (dgE) (dgF))) (way (publics (dgC) (pw 0)) 0))))), (35, Pr.ifb (((decide (linkOf (dgE) (dgF) = linkOf (dgE) (dgF))) && (keyCheck (root (publics (dgC) (pw 0))) (linkOf (dgE) (dgF)) (((0 : Nat) : Int)) (signed (seedAt (dgC) 0) (linkOf (dgE) (dgF))) (way (publics (dgC) (pw 0)) 0))) && (!(keyCheck (dgC) (linkOf (dgE) (dgF)) (((0 : Nat) : Int)) (signed (seedAt (dgC) 0) (linkOf (dgE) (dgF))) (way (publics (dgC) (pw 0)) 0)))) (Pr.ex (Value.bool (!(twiceB (root (publics (dgC) (pw 0))) (dgE) (dgF) (((0 : Nat) : Int)) (signed (seedAt (dgC) 0) (linkOf (dgE) (dgF))) (way (publics (dgC) (pw 0)) 0) (root (publics (dgC) (pw 0))) (dgE) (dgF) (((0 : Nat) : Int)) (signed (seedAt (dgC) 0) (linkOf (dgE) (dgF))) (way (publics (dgC) (pw 0)) 0)))))), (36, Pr.ex (Value.bool ((((decide (linkOf (dgE) (dgF) = linkOf (dgE) (dgF))) && (keyCheck (root (publics (dgC) (pw 0))) (linkOf (dgE) (dgF)) (((0 : Nat) : Int)) (signed (seedAt (dgC) 0) (linkOf (dgE) (dgF))) (way (publics (dgC) (pw 0)) 0))) && (!(keyCheck (dgC) (linkOf (dgE) (dgF)) (((0 : Nat) : Int)) (signed (seedAt (dgC) 0) (linkOf (dgE) (dgF))) (way (publics (dgC) (pw 0)) 0)))) && (!(twiceB (root (publics (dgC) (pw 0))) (dgE) (dgF) (((0 : Nat) : Int)) (signed (seedAt (dgC) 0) (linkOf (dgE) (dgF))) (way (publics (dgC) (pw 0)) 0) (root (publics (dgC) (pw 0))) (dgE) (dgF) (((0 : Nat) : Int)) (signed (seedAt (dgC) 0) (linkOf (dgE) (dgF))) (way (publics (dgC) (pw 0)) 0)))))), (0, Pr.ex (Value.bool ((((decide (linkOf (dgE) (dgF) = linkOf (dgE) (dgF))) && (keyCheck (root (publics (dgC) (pw 0))) (linkOf (dgE) (dgF)) (((0 : Nat) : Int)) (signed (seedAt (dgC) 0) (linkOf (dgE) (dgF))) (way (publics (dgC) (pw 0)) 0))) && (!(keyCheck (dgC) (linkOf (dgE) (dgF)) (((0 : Nat) : Int)) (signed (seedAt (dgC) 0) (linkOf (dgE) (dgF))) (way (publics (dgC) (pw 0)) 0)))) && (!(twiceB (root (publics (dgC) (pw 0))) (dgE) (dgF) (((0 : Nat) : Int)) (signed (seedAt (dgC) 0) (linkOf (dgE) (dgF))) (way (publics (dgC) (pw 0)) 0) (root (publics (dgC) (pw 0))) (dgE) (dgF) (((0 : Nat) : Int)) (signed (seedAt (dgC) 0) (linkOf (dgE) (dgF))) (way (publics (dgC) (pw 0)) 0))))))] 25 mixed N9 D9 ?_ ?_
 refine Ac ?_ (Ac ?_ (Ac ?_ (Ac ?_ (Ac ?_ (Ac ?_ (Ac ?_ (Ac ?_ (Ac ?_ (Ac ?_ (Ac ?_ (Ac ?_ (Ac ?_ (Ac ?_ (Ac ?_ (Ac ?_ (Ac ?_ (Ac ?_ (Ac ?_ (Ac ?_ (Ac ?_ (Ac ?_ (Ac ?_ (Ac ?_ (Ac ?_ (Az _)))))))))))))))))))))))))
 exact Ad fun aq wq _ hO hR hT => does_loadD (o := 0) (n := 8) (mid := [w32 (dgE).a, w32 (dgE).b, w32 (dgE).c, w32 (dgE).d, w32 (dgF).a, w32 (dgF).b, w32 (dgF).c, w32 (dgF).d]) (oT hO s1_9 rfl) (B1_10.ext' hR) rfl rfl (nB rfl) row_26 rfl eR
 exact Ad fun aq wq _ hO hR hT => does_ret (vs := #[Value.agg #[w32 (dgE).a, w32 (dgE).b, w32 (dgE).c, w32 (dgE).d, w32 (dgF).a, w32 (dgF).b, w32 (dgF).c, w32 (dgF).d]]) call_10 (args1 (hT 13 rfl rfl)) rfl ((linkOf_ (dgE) (dgF) wq (hL.ext (E10.trans hR))).mono fun v w2 h => ⟨h.2, h.1⟩)
 exact Ad fun aq wq _ hO hR hT => does_loadD (o := 0) (n := 8) (mid := [w32 (dgE).a, w32 (dgE).b, w32 (dgE).c, w32 (dgE).d, w32 (dgF).a, w32 (dgF).b, w32 (dgF).c, w32 (dgF).d]) (oT hO s1_9 rfl) (B1_10.ext' hR) rfl rfl (nB rfl) row_26 rfl eR
 exact Ad fun aq wq _ hO hR hT => does_ret (vs := #[Value.agg #[w32 (dgE).a, w32 (dgE).b, w32 (dgE).c, w32 (dgE).d, w32 (dgF).a, w32 (dgF).b, w32 (dgF).c, w32 (dgF).d]]) call_11 (args1 (hT 15 rfl rfl)) rfl ((linkOfR (dgE) (dgF) wq).mono fun v w2 h => ⟨h.2, h.1⟩)
 exact Ad fun aq wq _ hO hR hT => does_eqT (a := linkOf (dgE) (dgF)) (b := linkOf (dgE) (dgF)) eq_24 (hT 14 rfl rfl) (hT 16 rfl rfl) eR
 exact Ad fun aq wq _ hO hR hT => does_move (V := Value.bool (decide (linkOf (dgE) (dgF) = linkOf (dgE) (dgF)))) (hT 17 rfl rfl) eR
 refine Ask.guarded (B := decide (linkOf (dgE) (dgF) = linkOf (dgE) (dgF))) (want := true) (t := 18) rfl rfl rfl rfl (by decide) (fun aq wq hO hR hT => hT 18 rfl rfl) (fun hG aq wq hNq hO hR hT => ?_) (fun hno _ => fun hc => absurd hc hno)
 replace hR := (Ext.drew _).trans hR
 exact does_loadD (o := 0) (n := 8) (mid := [w32 (dgE).a, w32 (dgE).b, w32 (dgE).c, w32 (dgE).d, w32 (dgF).a, w32 (dgF).b, w32 (dgF).c, w32 (dgF).d]) (oT hO s1_9 rfl) (B1_10.ext' hR) rfl rfl (nB rfl) row_26 rfl ⟨Ext.refl _, fun _ => rfl⟩
 refine Ask.guarded (B := decide (linkOf (dgE) (dgF) = linkOf (dgE) (dgF))) (want := true) (t := 18) rfl rfl rfl rfl (by decide) (fun aq wq hO hR hT => hT 18 rfl rfl) (fun hG aq wq hNq hO hR hT => ?_) (fun hno _ => fun hc => absurd hc hno)
 replace hR := (Ext.drew _).trans hR
 exact does_loadD (o := 0) (n := 7) (mid := [w32 (root (publics (dgC) (pw 0))).a, w32 (root (publics (dgC) (pw 0))).b, w32 (root (publics (dgC) (pw 0))).c, w32 (root (publics (dgC) (pw 0))).d, i64 ((0 : Nat) : Int), x9_0_4, x9_1_4]) (oT hO s2_9 rfl) (B2_10.ext' hR) rfl rfl (nB rfl) row_32 rfl ⟨Ext.refl _, fun _ => rfl⟩
 refine Ask.guarded (B := decide (linkOf (dgE) (dgF) = linkOf (dgE) (dgF))) (want := true) (t := 18) rfl rfl rfl rfl (by decide) (fun aq wq hO hR hT => hT 18 rfl rfl) (fun hG aq wq hNq hO hR hT => ?_) (fun hno _ => fun hc => absurd hc hno)
 replace hR := (Ext.drew _).trans hR
 exact does_ret (vs := #[Value.agg #[w32 (dgE).a, w32 (dgE).b, w32 (dgE).c, w32 (dgE).d, w32 (dgF).a, w32 (dgF).b, w32 (dgF).c, w32 (dgF).d], Value.agg #[w32 (root (publics (dgC) (pw 0))).a, w32 (root (publics (dgC) (pw 0))).b, w32 (root (publics (dgC) (pw 0))).c, w32 (root (publics (dgC) (pw 0))).d, i64 ((0 : Nat) : Int), x9_0_4, x9_1_4]]) call_12 (args2 (hT 19 rfl rfl hG) (hT 20 rfl rfl hG)) rfl ((linkCheck_ (dgE) (dgF) (root (publics (dgC) (pw 0))) (((0 : Nat) : Int)) (signed (seedAt (dgC) 0) (linkOf (dgE) (dgF))) (way (publics (dgC) (pw 0)) 0) (x9_0_4) (x9_1_4) wq (hL.ext (E10.trans hR)) ((X9_0_4_10.ext' hR).wide (Nat.zero_le _) (.inl rfl)) ((X9_1_4_10.ext' hR).wide (Nat.zero_le _) (.inl rfl)) (by rw [signed_length]; decide) (by rw [way_pw 0 _ _ (publics_length _ _) (by rw [publics_length]; decide)]; decide)).mono fun v w2 h => ⟨h.2, fun _ => h.1⟩)
 exact Ad fun aq wq _ hO hR hT => does_and (B := decide (linkOf (dgE) (dgF) = linkOf (dgE) (dgF))) (X := keyCheck (root (publics (dgC) (pw 0))) (linkOf (dgE) (dgF)) (((0 : Nat) : Int)) (signed (seedAt (dgC) 0) (linkOf (dgE) (dgF))) (way (publics (dgC) (pw 0)) 0)) (hT 18 rfl rfl) (fun hB => (hT 21 rfl rfl hB)) rfl eR
 exact Ad fun aq wq _ hO hR hT => does_move (V := Value.bool ((decide (linkOf (dgE) (dgF) = linkOf (dgE) (dgF))) && (keyCheck (root (publics (dgC) (pw 0))) (linkOf (dgE) (dgF)) (((0 : Nat) : Int)) (signed (seedAt (dgC) 0) (linkOf (dgE) (dgF))) (way (publics (dgC) (pw 0)) 0)))) (hT 22 rfl rfl) eR
 refine Ask.guarded (B := (decide (linkOf (dgE) (dgF) = linkOf (dgE) (dgF))) && (keyCheck (root (publics (dgC) (pw 0))) (linkOf (dgE) (dgF)) (((0 : Nat) : Int)) (signed (seedAt (dgC) 0) (linkOf (dgE) (dgF))) (way (publics (dgC) (pw 0)) 0))) (want := true) (t := 23) rfl rfl rfl rfl (by decide) (fun aq wq hO hR hT => hT 23 rfl rfl) (fun hG aq wq hNq hO hR hT => ?_) (fun hno _ => fun hc => absurd hc hno)
 replace hR := (Ext.drew _).trans hR
 exact does_loadD (o := 0) (n := 8) (mid := [w32 (dgE).a, w32 (dgE).b, w32 (dgE).c, w32 (dgE).d, w32 (dgF).a, w32 (dgF).b, w32 (dgF).c, w32 (dgF).d]) (oT hO s1_9 rfl) (B1_10.ext' hR) rfl rfl (nB rfl) row_26 rfl ⟨Ext.refl _, fun _ => rfl⟩
 refine Ask.guarded (B := (decide (linkOf (dgE) (dgF) = linkOf (dgE) (dgF))) && (keyCheck (root (publics (dgC) (pw 0))) (linkOf (dgE) (dgF)) (((0 : Nat) : Int)) (signed (seedAt (dgC) 0) (linkOf (dgE) (dgF))) (way (publics (dgC) (pw 0)) 0))) (want := true) (t := 23) rfl rfl rfl rfl (by decide) (fun aq wq hO hR hT => hT 23 rfl rfl) (fun hG aq wq hNq hO hR hT => ?_) (fun hno _ => fun hc => absurd hc hno)
 replace hR := (Ext.drew _).trans hR
 exact does_loadD (o := 0) (n := 7) (mid := [w32 (dgC).a, w32 (dgC).b, w32 (dgC).c, w32 (dgC).d, i64 ((0 : Nat) : Int), x9_0_4, x9_1_4]) (oT hO s3_9 rfl) (B3_10.ext' hR) rfl rfl (nB rfl) row_32 rfl ⟨Ext.refl _, fun _ => rfl⟩
 refine Ask.guarded (B := (decide (linkOf (dgE) (dgF) = linkOf (dgE) (dgF))) && (keyCheck (root (publics (dgC) (pw 0))) (linkOf (dgE) (dgF)) (((0 : Nat) : Int)) (signed (seedAt (dgC) 0) (linkOf (dgE) (dgF))) (way (publics (dgC) (pw 0)) 0))) (want := true) (t := 23) rfl rfl rfl rfl (by decide) (fun aq wq hO hR hT => hT 23 rfl rfl) (fun hG aq wq hNq hO hR hT => ?_) (fun hno _ => fun hc => absurd hc hno)
 replace hR := (Ext.drew _).trans hR
 exact does_ret (vs := #[Value.agg #[w32 (dgE).a, w32 (dgE).b, w32 (dgE).c, w32 (dgE).d, w32 (dgF).a, w32 (dgF).b, w32 (dgF).c, w32 (dgF).d], Value.agg #[w32 (dgC).a, w32 (dgC).b, w32 (dgC).c, w32 (dgC).d, i64 ((0 : Nat) : Int), x9_0_4, x9_1_4]]) call_12 (args2 (hT 24 rfl rfl hG) (hT 25 rfl rfl hG)) rfl ((linkCheck_ (dgE) (dgF) (dgC) (((0 : Nat) : Int)) (signed (seedAt (dgC) 0) (linkOf (dgE) (dgF))) (way (publics (dgC) (pw 0)) 0) (x9_0_4) (x9_1_4) wq (hL.ext (E10.trans hR)) ((X9_0_4_10.ext' hR).wide (Nat.zero_le _) (.inl rfl)) ((X9_1_4_10.ext' hR).wide (Nat.zero_le _) (.inl rfl)) (by rw [signed_length]; decide) (by rw [way_pw 0 _ _ (publics_length _ _) (by rw [publics_length]; decide)]; decide)).mono fun v w2 h => ⟨h.2, fun _ => h.1⟩)
 refine Ask.guarded (B := (decide (linkOf (dgE) (dgF) = linkOf (dgE) (dgF))) && (keyCheck (root (publics (dgC) (pw 0))) (linkOf (dgE) (dgF)) (((0 : Nat) : Int)) (signed (seedAt (dgC) 0) (linkOf (dgE) (dgF))) (way (publics (dgC) (pw 0)) 0))) (want := true) (t := 23) rfl rfl rfl rfl (by decide) (fun aq wq hO hR hT => hT 23 rfl rfl) (fun hG aq wq hNq hO hR hT => ?_) (fun hno _ => fun hc => absurd hc hno)
 replace hR := (Ext.drew _).trans hR
 exact does_not (B := keyCheck (dgC) (linkOf (dgE) (dgF)) (((0 : Nat) : Int)) (signed (seedAt (dgC) 0) (linkOf (dgE) (dgF))) (way (publics (dgC) (pw 0)) 0)) (hT 26 rfl rfl hG) ⟨Ext.refl _, fun _ => rfl⟩
 exact Ad fun aq wq _ hO hR hT => does_and (B := (decide (linkOf (dgE) (dgF) = linkOf (dgE) (dgF))) && (keyCheck (root (publics (dgC) (pw 0))) (linkOf (dgE) (dgF)) (((0 : Nat) : Int)) (signed (seedAt (dgC) 0) (linkOf (dgE) (dgF))) (way (publics (dgC) (pw 0)) 0))) (X := !(keyCheck (dgC) (linkOf (dgE) (dgF)) (((0 : Nat) : Int)) (signed (seedAt (dgC) 0) (linkOf (dgE) (dgF))) (way (publics (dgC) (pw 0)) 0))) (hT 23 rfl rfl) (fun hB => (hT 27 rfl rfl hB)) rfl eR
 exact Ad fun aq wq _ hO hR hT => does_move (V := Value.bool (((decide (linkOf (dgE) (dgF) = linkOf (dgE) (dgF))) && (keyCheck (root (publics (dgC) (pw 0))) (linkOf (dgE) (dgF)) (((0 : Nat) : Int)) (signed (seedAt (dgC) 0) (linkOf (dgE) (dgF))) (way (publics (dgC) (pw 0)) 0))) && (!(keyCheck (dgC) (linkOf (dgE) (dgF)) (((0 : Nat) : Int)) (signed (seedAt (dgC) 0) (linkOf (dgE) (dgF))) (way (publics (dgC) (pw 0)) 0))))) (hT 28 rfl rfl) eR
 refine Ask.guarded (B := ((decide (linkOf (dgE) (dgF) = linkOf (dgE) (dgF))) && (keyCheck (root (publics (dgC) (pw 0))) (linkOf (dgE) (dgF)) (((0 : Nat) : Int)) (signed (seedAt (dgC) 0) (linkOf (dgE) (dgF))) (way (publics (dgC) (pw 0)) 0))) && (!(keyCheck (dgC) (linkOf (dgE) (dgF)) (((0 : Nat) : Int)) (signed (seedAt (dgC) 0) (linkOf (dgE) (dgF))) (way (publics (dgC) (pw 0)) 0)))) (want := true) (t := 29) rfl rfl rfl rfl (by decide) (fun aq wq hO hR hT => hT 29 rfl rfl) (fun hG aq wq hNq hO hR hT => ?_) (fun hno _ => fun hc => absurd hc hno)
 replace hR := (Ext.drew _).trans hR
 exact does_loadD (o := 0) (n := 8) (mid := [w32 (dgE).a, w32 (dgE).b, w32 (dgE).c, w32 (dgE).d, w32 (dgF).a, w32 (dgF).b, w32 (dgF).c, w32 (dgF).d]) (oT hO s1_9 rfl) (B1_10.ext' hR) rfl rfl (nB rfl) row_26 rfl ⟨Ext.refl _, fun _ => rfl⟩
 refine Ask.guarded (B := ((decide (linkOf (dgE) (dgF) = linkOf (dgE) (dgF))) && (keyCheck (root (publics (dgC) (pw 0))) (linkOf (dgE) (dgF)) (((0 : Nat) : Int)) (signed (seedAt (dgC) 0) (linkOf (dgE) (dgF))) (way (publics (dgC) (pw 0)) 0))) && (!(keyCheck (dgC) (linkOf (dgE) (dgF)) (((0 : Nat) : Int)) (signed (seedAt (dgC) 0) (linkOf (dgE) (dgF))) (way (publics (dgC) (pw 0)) 0)))) (want := true) (t := 29) rfl rfl rfl rfl (by decide) (fun aq wq hO hR hT => hT 29 rfl rfl) (fun hG aq wq hNq hO hR hT => ?_) (fun hno _ => fun hc => absurd hc hno)
 replace hR := (Ext.drew _).trans hR
 exact does_loadD (o := 0) (n := 7) (mid := [w32 (root (publics (dgC) (pw 0))).a, w32 (root (publics (dgC) (pw 0))).b, w32 (root (publics (dgC) (pw 0))).c, w32 (root (publics (dgC) (pw 0))).d, i64 ((0 : Nat) : Int), x9_0_4, x9_1_4]) (oT hO s2_9 rfl) (B2_10.ext' hR) rfl rfl (nB rfl) row_32 rfl ⟨Ext.refl _, fun _ => rfl⟩
 refine Ask.guarded (B := ((decide (linkOf (dgE) (dgF) = linkOf (dgE) (dgF))) && (keyCheck (root (publics (dgC) (pw 0))) (linkOf (dgE) (dgF)) (((0 : Nat) : Int)) (signed (seedAt (dgC) 0) (linkOf (dgE) (dgF))) (way (publics (dgC) (pw 0)) 0))) && (!(keyCheck (dgC) (linkOf (dgE) (dgF)) (((0 : Nat) : Int)) (signed (seedAt (dgC) 0) (linkOf (dgE) (dgF))) (way (publics (dgC) (pw 0)) 0)))) (want := true) (t := 29) rfl rfl rfl rfl (by decide) (fun aq wq hO hR hT => hT 29 rfl rfl) (fun hG aq wq hNq hO hR hT => ?_) (fun hno _ => fun hc => absurd hc hno)
 replace hR := (Ext.drew _).trans hR
 exact does_loadD (o := 0) (n := 8) (mid := [w32 (dgE).a, w32 (dgE).b, w32 (dgE).c, w32 (dgE).d, w32 (dgF).a, w32 (dgF).b, w32 (dgF).c, w32 (dgF).d]) (oT hO s1_9 rfl) (B1_10.ext' hR) rfl rfl (nB rfl) row_26 rfl ⟨Ext.refl _, fun _ => rfl⟩
 refine Ask.guarded (B := ((decide (linkOf (dgE) (dgF) = linkOf (dgE) (dgF))) && (keyCheck (root (publics (dgC) (pw 0))) (linkOf (dgE) (dgF)) (((0 : Nat) : Int)) (signed (seedAt (dgC) 0) (linkOf (dgE) (dgF))) (way (publics (dgC) (pw 0)) 0))) && (!(keyCheck (dgC) (linkOf (dgE) (dgF)) (((0 : Nat) : Int)) (signed (seedAt (dgC) 0) (linkOf (dgE) (dgF))) (way (publics (dgC) (pw 0)) 0)))) (want := true) (t := 29) rfl rfl rfl rfl (by decide) (fun aq wq hO hR hT => hT 29 rfl rfl) (fun hG aq wq hNq hO hR hT => ?_) (fun hno _ => fun hc => absurd hc hno)
 replace hR := (Ext.drew _).trans hR
 exact does_loadD (o := 0) (n := 7) (mid := [w32 (root (publics (dgC) (pw 0))).a, w32 (root (publics (dgC) (pw 0))).b, w32 (root (publics (dgC) (pw 0))).c, w32 (root (publics (dgC) (pw 0))).d, i64 ((0 : Nat) : Int), x9_0_4, x9_1_4]) (oT hO s2_9 rfl) (B2_10.ext' hR) rfl rfl (nB rfl) row_32 rfl ⟨Ext.refl _, fun _ => rfl⟩
 refine Ask.guarded (B := ((decide (linkOf (dgE) (dgF) = linkOf (dgE) (dgF))) && (keyCheck (root (publics (dgC) (pw 0))) (linkOf (dgE) (dgF)) (((0 : Nat) : Int)) (signed (seedAt (dgC) 0) (linkOf (dgE) (dgF))) (way (publics (dgC) (pw 0)) 0))) && (!(keyCheck (dgC) (linkOf (dgE) (dgF)) (((0 : Nat) : Int)) (signed (seedAt (dgC) 0) (linkOf (dgE) (dgF))) (way (publics (dgC) (pw 0)) 0)))) (want := true) (t := 29) rfl rfl rfl rfl (by decide) (fun aq wq hO hR hT => hT 29 rfl rfl) (fun hG aq wq hNq hO hR hT => ?_) (fun hno _ => fun hc => absurd hc hno)
 replace hR := (Ext.drew _).trans hR
 exact does_ret (vs := #[Value.agg #[w32 (dgE).a, w32 (dgE).b, w32 (dgE).c, w32 (dgE).d, w32 (dgF).a, w32 (dgF).b, w32 (dgF).c, w32 (dgF).d], Value.agg #[w32 (root (publics (dgC) (pw 0))).a, w32 (root (publics (dgC) (pw 0))).b, w32 (root (publics (dgC) (pw 0))).c, w32 (root (publics (dgC) (pw 0))).d, i64 ((0 : Nat) : Int), x9_0_4, x9_1_4], Value.agg #[w32 (dgE).a, w32 (dgE).b, w32 (dgE).c, w32 (dgE).d, w32 (dgF).a, w32 (dgF).b, w32 (dgF).c, w32 (dgF).d], Value.agg #[w32 (root (publics (dgC) (pw 0))).a, w32 (root (publics (dgC) (pw 0))).b, w32 (root (publics (dgC) (pw 0))).c, w32 (root (publics (dgC) (pw 0))).d, i64 ((0 : Nat) : Int), x9_0_4, x9_1_4]]) call_14 (args4 (hT 30 rfl rfl hG) (hT 31 rfl rfl hG) (hT 32 rfl rfl hG) (hT 33 rfl rfl hG)) rfl ((twice_ (dgE) (dgF) (root (publics (dgC) (pw 0))) (((0 : Nat) : Int)) (signed (seedAt (dgC) 0) (linkOf (dgE) (dgF))) (way (publics (dgC) (pw 0)) 0) (dgE) (dgF) (root (publics (dgC) (pw 0))) (((0 : Nat) : Int)) (signed (seedAt (dgC) 0) (linkOf (dgE) (dgF))) (way (publics (dgC) (pw 0)) 0) (x9_0_4) (x9_1_4) (x9_0_4) (x9_1_4) wq (hL.ext (E10.trans hR)) ((X9_0_4_10.ext' hR).wide (Nat.zero_le _) (.inl rfl)) ((X9_1_4_10.ext' hR).wide (Nat.zero_le _) (.inl rfl)) ((X9_0_4_10.ext' hR).wide (Nat.zero_le _) (.inl rfl)) ((X9_1_4_10.ext' hR).wide (Nat.zero_le _) (.inl rfl)) (by rw [signed_length]; decide) (by rw [way_pw 0 _ _ (publics_length _ _) (by rw [publics_length]; decide)]; decide) (by rw [signed_length]; decide) (by rw [way_pw 0 _ _ (publics_length _ _) (by rw [publics_length]; decide)]; decide)).mono fun v w2 h => ⟨h.2, fun _ => h.1⟩)
 refine Ask.guarded (B := ((decide (linkOf (dgE) (dgF) = linkOf (dgE) (dgF))) && (keyCheck (root (publics (dgC) (pw 0))) (linkOf (dgE) (dgF)) (((0 : Nat) : Int)) (signed (seedAt (dgC) 0) (linkOf (dgE) (dgF))) (way (publics (dgC) (pw 0)) 0))) && (!(keyCheck (dgC) (linkOf (dgE) (dgF)) (((0 : Nat) : Int)) (signed (seedAt (dgC) 0) (linkOf (dgE) (dgF))) (way (publics (dgC) (pw 0)) 0)))) (want := true) (t := 29) rfl rfl rfl rfl (by decide) (fun aq wq hO hR hT => hT 29 rfl rfl) (fun hG aq wq hNq hO hR hT => ?_) (fun hno _ => fun hc => absurd hc hno)
 replace hR := (Ext.drew _).trans hR
 exact does_not (B := twiceB (root (publics (dgC) (pw 0))) (dgE) (dgF) (((0 : Nat) : Int)) (signed (seedAt (dgC) 0) (linkOf (dgE) (dgF))) (way (publics (dgC) (pw 0)) 0) (root (publics (dgC) (pw 0))) (dgE) (dgF) (((0 : Nat) : Int)) (signed (seedAt (dgC) 0) (linkOf (dgE) (dgF))) (way (publics (dgC) (pw 0)) 0)) (hT 34 rfl rfl hG) ⟨Ext.refl _, fun _ => rfl⟩
 exact Ad fun aq wq _ hO hR hT => does_and (B := ((decide (linkOf (dgE) (dgF) = linkOf (dgE) (dgF))) && (keyCheck (root (publics (dgC) (pw 0))) (linkOf (dgE) (dgF)) (((0 : Nat) : Int)) (signed (seedAt (dgC) 0) (linkOf (dgE) (dgF))) (way (publics (dgC) (pw 0)) 0))) && (!(keyCheck (dgC) (linkOf (dgE) (dgF)) (((0 : Nat) : Int)) (signed (seedAt (dgC) 0) (linkOf (dgE) (dgF))) (way (publics (dgC) (pw 0)) 0)))) (X := !(twiceB (root (publics (dgC) (pw 0))) (dgE) (dgF) (((0 : Nat) : Int)) (signed (seedAt (dgC) 0) (linkOf (dgE) (dgF))) (way (publics (dgC) (pw 0)) 0) (root (publics (dgC) (pw 0))) (dgE) (dgF) (((0 : Nat) : Int)) (signed (seedAt (dgC) 0) (linkOf (dgE) (dgF))) (way (publics (dgC) (pw 0)) 0))) (hT 29 rfl rfl) (fun hB => (hT 35 rfl rfl hB)) rfl eR
 exact Ad fun aq wq _ hO hR hT => does_assign (V := Value.bool ((((decide (linkOf (dgE) (dgF) = linkOf (dgE) (dgF))) && (keyCheck (root (publics (dgC) (pw 0))) (linkOf (dgE) (dgF)) (((0 : Nat) : Int)) (signed (seedAt (dgC) 0) (linkOf (dgE) (dgF))) (way (publics (dgC) (pw 0)) 0))) && (!(keyCheck (dgC) (linkOf (dgE) (dgF)) (((0 : Nat) : Int)) (signed (seedAt (dgC) 0) (linkOf (dgE) (dgF))) (way (publics (dgC) (pw 0)) 0)))) && (!(twiceB (root (publics (dgC) (pw 0))) (dgE) (dgF) (((0 : Nat) : Int)) (signed (seedAt (dgC) 0) (linkOf (dgE) (dgF))) (way (publics (dgC) (pw 0)) 0) (root (publics (dgC) (pw 0))) (dgE) (dgF) (((0 : Nat) : Int)) (signed (seedAt (dgC) 0) (linkOf (dgE) (dgF))) (way (publics (dgC) (pw 0)) 0))))) (hT 36 rfl rfl) eR
 intro a11 wd11 N11 D11 hO hR hA hU
 obtain ⟨_, _, _, _, _, _, _, _, _, _, _, _, _, _, _, _, _, _, _, _, _, _, _, _, t0, _⟩ := hA
 have E11 := E10.trans hR
 have B1_11 := B1_10.ext' hR
 have B2_11 := B2_10.ext' hR
 have B3_11 := B3_10.ext' hR
 have X9_0_4_11 := X9_0_4_10.ext' hR
 have X9_1_4_11 := X9_1_4_10.ext' hR
 have O9_0_4_11 := O9_0_4_10.ext' hR
 have O9_1_4_11 := O9_1_4_10.ext' hR
 have s0_11 : get a11 0 = Value.bool ((((decide (linkOf (dgE) (dgF) = linkOf (dgE) (dgF))) && (keyCheck (root (publics (dgC) (pw 0))) (linkOf (dgE) (dgF)) (((0 : Nat) : Int)) (signed (seedAt (dgC) 0) (linkOf (dgE) (dgF))) (way (publics (dgC) (pw 0)) 0))) && (!(keyCheck (dgC) (linkOf (dgE) (dgF)) (((0 : Nat) : Int)) (signed (seedAt (dgC) 0) (linkOf (dgE) (dgF))) (way (publics (dgC) (pw 0)) 0)))) && (!(twiceB (root (publics (dgC) (pw 0))) (dgE) (dgF) (((0 : Nat) : Int)) (signed (seedAt (dgC) 0) (linkOf (dgE) (dgF))) (way (publics (dgC) (pw 0)) 0) (root (publics (dgC) (pw 0))) (dgE) (dgF) (((0 : Nat) : Int)) (signed (seedAt (dgC) 0) (linkOf (dgE) (dgF))) (way (publics (dgC) (pw 0)) 0)))) := t0
 clear E10 N9 D9 s1_9 s2_9 s3_9 s11_9 s12_9 B1_10 B2_10 B3_10 X9_0_4_10 X9_1_4_10 O9_0_4_10 O9_1_4_10
 refine tail_nil ?_
 refine wp_ret ?_
 refine res_one (V := Value.bool ((((decide (linkOf (dgE) (dgF) = linkOf (dgE) (dgF))) && (keyCheck (root (publics (dgC) (pw 0))) (linkOf (dgE) (dgF)) (((0 : Nat) : Int)) (signed (seedAt (dgC) 0) (linkOf (dgE) (dgF))) (way (publics (dgC) (pw 0)) 0))) && (!(keyCheck (dgC) (linkOf (dgE) (dgF)) (((0 : Nat) : Int)) (signed (seedAt (dgC) 0) (linkOf (dgE) (dgF))) (way (publics (dgC) (pw 0)) 0)))) && (!(twiceB (root (publics (dgC) (pw 0))) (dgE) (dgF) (((0 : Nat) : Int)) (signed (seedAt (dgC) 0) (linkOf (dgE) (dgF))) (way (publics (dgC) (pw 0)) 0) (root (publics (dgC) (pw 0))) (dgE) (dgF) (((0 : Nat) : Int)) (signed (seedAt (dgC) 0) (linkOf (dgE) (dgF))) (way (publics (dgC) (pw 0)) 0))))) rfl D11 s0_11 ?_
 exact ⟨congrArg Value.bool (by rw [keyCheck_sign (by decide) (by decide), keyCheck_of (by decide) (by decide), twiceB_self, decide_eq_false awake44_law]; simp), E11⟩

end Go.Proofs.YtmmghpbncejfiaaDoor
