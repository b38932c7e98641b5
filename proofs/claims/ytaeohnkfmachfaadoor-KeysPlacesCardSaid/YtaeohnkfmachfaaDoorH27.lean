/- The walks of functions of the program: printed. -/
import Derived.Test.YtaeohnkfmachfaaDoorKB
import Derived.Test.YtaeohnkfmachfaaDoorG70
import Derived.Test.YtaeohnkfmachfaaDoorG94
import Derived.Test.YtaeohnkfmachfaaDoorG95
import Derived.Test.YtaeohnkfmachfaaDoorG100
import Derived.Test.YtaeohnkfmachfaaDoorG107
import Derived.Test.YtaeohnkfmachfaaDoorG108
import Derived.Test.YtaeohnkfmachfaaDoorF0
set_option maxRecDepth 100000
namespace Go.Proofs.YtaeohnkfmachfaaDoor
open Go Go.RowKit Sk Sd
theorem call_7 : Callable Tryd.prog 7 := ⟨_, Tryd.func7, by kernel_rfl, rfl⟩
theorem arr_45 : ArrIs Tryd.prog 45 3 5 1 := ⟨Tryd.underlying45, by kernel_rfl⟩
theorem one_5 : OneIs Tryd.prog 5 := ⟨_, Tryd.underlying5, rfl, by kernel_rfl⟩
theorem siz_3 : (Tryd.prog.info? 3).map (·.size) = some 1 := by kernel_rfl
theorem call_15 : Callable Tryd.prog 15 := ⟨_, Tryd.func15, by kernel_rfl, rfl⟩
theorem keysPlaces (seed : Dg) (z1 z2 z3 : UInt8) (msg : Dg) (w0 : World) (hL : Laid w0) :
    Gives Tryd.prog 6 #[Dg.val (seed), Value.agg #[w8 (z1), w8 (z2), w8 (z3)], Dg.val (msg)] w0 (Pr.ex (Value.bool true)) := by
 refine enter (N := 113) Tryd.func6 rfl rfl ?_
 intro a0 N0 D0 hA
 have s0_0 : get a0 0 = Dg.val (seed) := hA 0 _ rfl
 have s1_0 : get a0 1 = Value.agg #[w8 (z1), w8 (z2), w8 (z3)] := hA 1 _ rfl
 have s2_0 : get a0 2 = Dg.val (msg) := hA 2 _ rfl
 clear hA
 have E0 : Ext w0 w0 := Ext.refl w0
 refine wp_seq ?_
 refine Rl [3, 4, 5] [(3, Pr.box' w0.heap.size 24 [w32 (seed).a, w32 (seed).b, w32 (seed).c, w32 (seed).d]), (4, Pr.box' w0.heap.size 45 [w8 (z1), w8 (z2), w8 (z3)]), (5, Pr.box' w0.heap.size 24 [w32 (msg).a, w32 (msg).b, w32 (msg).c, w32 (msg).d]), (6, Pr.ex (Value.bool (false)))] 4 N0 D0 ?_ ?_
 refine Ac ?_ (Ac ?_ (Ac ?_ (Ac ?_ (Az _))))
 refine Ask.fresh rfl rfl ?_
 intro aq wq hNq hO hR hT
 exact does_box (V := Dg.val (seed)) (oT hO s0_0 rfl) (fun b w2 he hlo hb => ⟨he, ⟨b, rfl, Nat.le_trans hR.size' hlo, hb⟩, ⟨b, rfl, hlo, hb.lt⟩⟩)
 refine Ask.fresh rfl rfl ?_
 intro aq wq hNq hO hR hT
 exact does_box (V := Value.agg #[w8 (z1), w8 (z2), w8 (z3)]) (oT hO s1_0 rfl) (fun b w2 he hlo hb => ⟨he, ⟨b, rfl, Nat.le_trans hR.size' hlo, hb⟩, ⟨b, rfl, hlo, hb.lt⟩⟩)
 refine Ask.fresh rfl rfl ?_
 intro aq wq hNq hO hR hT
 exact does_box (V := Dg.val (msg)) (oT hO s2_0 rfl) (fun b w2 he hlo hb => ⟨he, ⟨b, rfl, Nat.le_trans hR.size' hlo, hb⟩, ⟨b, rfl, hlo, hb.lt⟩⟩)
 exact Ap fun aq wq _ hO hR hT => does_assign (V := Value.bool (false)) rfl eR
 intro a1 wd1 N1 D1 hO hR hA hU
 obtain ⟨t3, t4, t5, _, _⟩ := hA
 have E1 := E0.trans hR
 obtain ⟨b3, s3_1, lo_b3, B3_1⟩ := t3
 have fr_b3 : w0.heap.size ≤ b3 := Nat.le_trans E0.size' lo_b3
 obtain ⟨b4, s4_1, lo_b4, B4_1⟩ := t4
 have fr_b4 : w0.heap.size ≤ b4 := Nat.le_trans E0.size' lo_b4
 obtain ⟨b5, s5_1, lo_b5, B5_1⟩ := t5
 have fr_b5 : w0.heap.size ≤ b5 := Nat.le_trans E0.size' lo_b5
 obtain ⟨u0, ⟨u1, ⟨u2, _⟩⟩⟩ := hU
 have ne_b3_b4 : b3 ≠ b4 := fun e => u0 4 (by decide) (by rw [s3_1, s4_1, e])
 have ne_b3_b5 : b3 ≠ b5 := fun e => u0 5 (by decide) (by rw [s3_1, s5_1, e])
 have ne_b4_b5 : b4 ≠ b5 := fun e => u1 5 (by decide) (by rw [s4_1, s5_1, e])
 clear E0 N0 D0 s0_0 s1_0 s2_0
 refine tail_nil ?_
 refine wp_seq ?_
 refine wp_seq ?_
 refine Rl [] [(19, Pr.ex (Value.bool (true))), (20, Pr.ex (Value.bool (false)))] 2 N1 D1 ?_ ?_
 refine Ac ?_ (Ac ?_ (Az _))
 exact Ap fun aq wq _ hO hR hT => does_ret (vs := #[]) call_7 args0 rfl ((awake06 wq (hL.ext (E1.trans hR))).mono fun v w2 h => ⟨h.2, h.1⟩)
 exact Ap fun aq wq _ hO hR hT => does_not (B := true) (hT 19 rfl rfl) eR
 intro a2 wd2 N2 D2 hO hR hA hU
 obtain ⟨_, t20, _⟩ := hA
 have E2 := E1.trans hR
 have s3_2 := oT hO s3_1 rfl
 have s4_2 := oT hO s4_1 rfl
 have s5_2 := oT hO s5_1 rfl
 have B3_2 := B3_1.ext' hR
 have B4_2 := B4_1.ext' hR
 have B5_2 := B5_1.ext' hR
 have s20_2 : get a2 20 = Value.bool (false) := t20
 clear E1 N1 D1 s3_1 s4_1 s5_1 B3_1 B4_1 B5_1
 refine tail_nil ?_
 refine wp_ifF s20_2 ?_
 refine wp_skip ?_
 refine wp_seq ?_
 refine Rl [] [(21, Pr.ex (Value.pointer (some ⟨b4, 0, none⟩))), (22, Pr.ex (w8 (z1))), (23, Pr.ex (i64 (((z1).toNat : Nat) : Int))), (24, Pr.ex (i64 ((((z1).toNat) % 2 : Nat) : Int))), (25, Pr.ex (i64 ((1 + (((z1).toNat) % 2) : Nat) : Int))), (7, Pr.ex (i64 ((1 + (((z1).toNat) % 2) : Nat) : Int)))] 6 N2 D2 ?_ ?_
 refine Ac ?_ (Ac ?_ (Ac ?_ (Ac ?_ (Ac ?_ (Ac ?_ (Az _))))))
 exact Ap fun aq wq _ hO hR hT => does_indexArr (k := .i64) (i := 0) (o' := 0) arr_45 (oT hO s4_2 rfl) rfl (by decide) (by decide) rfl eR
 exact Ap fun aq wq _ hO hR hT => does_loadD1 (o := 0) (V := w8 (z1)) (hT 21 rfl rfl) (B4_2.ext' hR) rfl one_5 eR
 exact Ap fun aq wq _ hO hR hT => does_conv ⟨_, Tryd.underlying5⟩ Tryd.underlying3 (hT 22 rfl rfl) (conv_w_i8 _) eR
 exact Ap fun aq wq _ hO hR hT => does_rem (k := .i64) (a := (((z1).toNat : Nat) : Int)) (b := ((2 : Nat) : Int)) (r := ((((z1).toNat) % 2 : Nat) : Int)) (hT 23 rfl rfl) rfl (by omega) (by omega) (by omega) eR
 exact Ap fun aq wq _ hO hR hT => does_add (a := ((1 : Nat) : Int)) (b := ((((z1).toNat) % 2 : Nat) : Int)) (r := ((1 + (((z1).toNat) % 2) : Nat) : Int)) rfl (hT 24 rfl rfl) (by omega) (by omega) (by omega) eR
 exact Ap fun aq wq _ hO hR hT => does_assign (V := i64 ((1 + (((z1).toNat) % 2) : Nat) : Int)) (hT 25 rfl rfl) eR
 intro a3 wd3 N3 D3 hO hR hA hU
 obtain ⟨_, _, _, _, _, t7, _⟩ := hA
 have E3 := E2.trans hR
 have s3_3 := oT hO s3_2 rfl
 have s4_3 := oT hO s4_2 rfl
 have s5_3 := oT hO s5_2 rfl
 have B3_3 := B3_2.ext' hR
 have B4_3 := B4_2.ext' hR
 have B5_3 := B5_2.ext' hR
 have s7_3 : get a3 7 = i64 ((1 + (((z1).toNat) % 2) : Nat) : Int) := t7
 clear E2 N2 D2 s3_2 s4_2 s5_2 s20_2 B3_2 B4_2 B5_2
 refine tail_nil ?_
 refine wp_seq ?_
 obtain ⟨h, hhe⟩ : ∃ n : Nat, 1 + (((z1).toNat) % 2) = n := ⟨_, rfl⟩
 have hh : h = 1 ∨ h = 2 := by have := Nat.mod_lt z1.toNat (show 0 < 2 by decide); omega
 have hn4 : h ≤ 4 := by omega
 have hph : pw h = 2 * h := by rcases hh with rfl | rfl <;> rfl
 rw [hhe] at s7_3
 refine Rl [] [(26, Pr.ex (i64 (h : Int))), (27, Pr.ex (i64 ((2 * h : Nat) : Int))), (8, Pr.ex (i64 ((2 * h : Nat) : Int)))] 3 N3 D3 ?_ ?_
 refine Ac ?_ (Ac ?_ (Ac ?_ (Az _)))
 exact Am s7_3 rfl fun _ => rfl
 exact Ap fun aq wq _ hO hR hT => does_mul (a := ((2 : Nat) : Int)) (b := (h : Int)) (r := ((2 * h : Nat) : Int)) rfl (hT 26 rfl rfl) (by simp) (by omega) (by omega) eR
 exact Ap fun aq wq _ hO hR hT => does_assign (V := i64 ((2 * h : Nat) : Int)) (hT 27 rfl rfl) eR
 intro a4 wd4 N4 D4 hO hR hA hU
 obtain ⟨_, _, t8, _⟩ := hA
 have E4 := E3.trans hR
 have s3_4 := oT hO s3_3 rfl
 have s4_4 := oT hO s4_3 rfl
 have s5_4 := oT hO s5_3 rfl
 have s7_4 := oT hO s7_3 rfl
 have B3_4 := B3_3.ext' hR
 have B4_4 := B4_3.ext' hR
 have B5_4 := B5_3.ext' hR
 have s8_4 : get a4 8 = i64 ((2 * h : Nat) : Int) := t8
 clear E3 N3 D3 s3_3 s4_3 s5_3 s7_3 B3_3 B4_3 B5_3
 refine tail_nil ?_
 refine wp_seq ?_
 refine Rl [] [(28, Pr.ex (Value.pointer (some ⟨b4, 1, none⟩))), (29, Pr.ex (w8 (z2))), (30, Pr.ex (i64 (((z2).toNat : Nat) : Int))), (31, Pr.ex (i64 ((2 * h : Nat) : Int))), (32, Pr.ex (i64 ((((z2).toNat) % (2 * h) : Nat) : Int))), (9, Pr.ex (i64 ((((z2).toNat) % (2 * h) : Nat) : Int)))] 6 N4 D4 ?_ ?_
 refine Ac ?_ (Ac ?_ (Ac ?_ (Ac ?_ (Ac ?_ (Ac ?_ (Az _))))))
 exact Ap fun aq wq _ hO hR hT => does_indexArr (k := .i64) (i := 1) (o' := 1) arr_45 (oT hO s4_4 rfl) rfl (by decide) (by decide) rfl eR
 exact Ap fun aq wq _ hO hR hT => does_loadD1 (o := 1) (V := w8 (z2)) (hT 28 rfl rfl) (B4_4.ext' hR) rfl one_5 eR
 exact Ap fun aq wq _ hO hR hT => does_conv ⟨_, Tryd.underlying5⟩ Tryd.underlying3 (hT 29 rfl rfl) (conv_w_i8 _) eR
 exact Am s8_4 rfl fun _ => rfl
 exact Ap fun aq wq _ hO hR hT => does_rem (k := .i64) (a := (((z2).toNat : Nat) : Int)) (b := ((2 * h : Nat) : Int)) (r := ((((z2).toNat) % (2 * h) : Nat) : Int)) (hT 30 rfl rfl) (hT 31 rfl rfl) (by omega) (by omega) (by omega) eR
 exact Ap fun aq wq _ hO hR hT => does_assign (V := i64 ((((z2).toNat) % (2 * h) : Nat) : Int)) (hT 32 rfl rfl) eR
 intro a5 wd5 N5 D5 hO hR hA hU
 obtain ⟨_, _, _, _, _, t9, _⟩ := hA
 have E5 := E4.trans hR
 have s3_5 := oT hO s3_4 rfl
 have s4_5 := oT hO s4_4 rfl
 have s5_5 := oT hO s5_4 rfl
 have s7_5 := oT hO s7_4 rfl
 have s8_5 := oT hO s8_4 rfl
 have B3_5 := B3_4.ext' hR
 have B4_5 := B4_4.ext' hR
 have B5_5 := B5_4.ext' hR
 have s9_5 : get a5 9 = i64 ((((z2).toNat) % (2 * h) : Nat) : Int) := t9
 clear E4 N4 D4 s3_4 s4_4 s5_4 s7_4 s8_4 B3_4 B4_4 B5_4
 refine tail_nil ?_
 refine wp_seq ?_
 obtain ⟨j, hje⟩ : ∃ n : Nat, ((z2).toNat) % (2 * h) = n := ⟨_, rfl⟩
 have hj : j < pw h := by have := Nat.mod_lt z2.toNat (show 0 < 2 * h by omega); omega
 rw [hje] at s9_5
 refine Rl [] [(33, Pr.ex (Value.pointer (some ⟨b4, 2, none⟩))), (34, Pr.ex (w8 (z3))), (35, Pr.ex (i64 (((z3).toNat : Nat) : Int))), (36, Pr.ex (i64 ((2 * h : Nat) : Int))), (37, Pr.ex (i64 ((((z3).toNat) % (2 * h) : Nat) : Int))), (10, Pr.ex (i64 ((((z3).toNat) % (2 * h) : Nat) : Int)))] 6 N5 D5 ?_ ?_
 refine Ac ?_ (Ac ?_ (Ac ?_ (Ac ?_ (Ac ?_ (Ac ?_ (Az _))))))
 exact Ap fun aq wq _ hO hR hT => does_indexArr (k := .i64) (i := 2) (o' := 2) arr_45 (oT hO s4_5 rfl) rfl (by decide) (by decide) rfl eR
 exact Ap fun aq wq _ hO hR hT => does_loadD1 (o := 2) (V := w8 (z3)) (hT 33 rfl rfl) (B4_5.ext' hR) rfl one_5 eR
 exact Ap fun aq wq _ hO hR hT => does_conv ⟨_, Tryd.underlying5⟩ Tryd.underlying3 (hT 34 rfl rfl) (conv_w_i8 _) eR
 exact Am s8_5 rfl fun _ => rfl
 exact Ap fun aq wq _ hO hR hT => does_rem (k := .i64) (a := (((z3).toNat : Nat) : Int)) (b := ((2 * h : Nat) : Int)) (r := ((((z3).toNat) % (2 * h) : Nat) : Int)) (hT 35 rfl rfl) (hT 36 rfl rfl) (by omega) (by omega) (by omega) eR
 exact Ap fun aq wq _ hO hR hT => does_assign (V := i64 ((((z3).toNat) % (2 * h) : Nat) : Int)) (hT 37 rfl rfl) eR
 intro a6 wd6 N6 D6 hO hR hA hU
 obtain ⟨_, _, _, _, _, t10, _⟩ := hA
 have E6 := E5.trans hR
 have s3_6 := oT hO s3_5 rfl
 have s5_6 := oT hO s5_5 rfl
 have s7_6 := oT hO s7_5 rfl
 have s9_6 := oT hO s9_5 rfl
 have B3_6 := B3_5.ext' hR
 have B4_6 := B4_5.ext' hR
 have B5_6 := B5_5.ext' hR
 have s10_6 : get a6 10 = i64 ((((z3).toNat) % (2 * h) : Nat) : Int) := t10
 clear E5 N5 D5 s3_5 s4_5 s5_5 s7_5 s8_5 s9_5 B3_5 B4_5 B5_5
 refine tail_nil ?_
 refine wp_seq ?_
 obtain ⟨k, hke⟩ : ∃ n : Nat, ((z3).toNat) % (2 * h) = n := ⟨_, rfl⟩
 have hk : k < pw h := by have := Nat.mod_lt z3.toNat (show 0 < 2 * h by omega); omega
 rw [hke] at s10_6
 refine Rl [] [(39, Pr.ex (Dg.val (seed))), (40, Pr.ex (i64 (h : Int))), (41, Pr.ex (i64 (j : Int))), (42, Pr.ex (Dg.val (msg))), (43, Pr.t2 (Pr.ag2 (fun x y => Value.agg #[i64 (j : Int), x, y]) (Pr.own' DG wd6.heap.size 24 (signed (seedAt seed j) msg)) (Pr.own' DG wd6.heap.size 24 (way (publics seed (pw h)) j))) (Pr.ex (i64 ((0 : Nat) : Int)))), (38, Pr.t2 (Pr.ag2 (fun x y => Value.agg #[i64 (j : Int), x, y]) (Pr.own' DG wd6.heap.size 24 (signed (seedAt seed j) msg)) (Pr.own' DG wd6.heap.size 24 (way (publics seed (pw h)) j))) (Pr.ex (i64 ((0 : Nat) : Int)))), (44, Pr.ag2 (fun x y => Value.agg #[i64 (j : Int), x, y]) (Pr.own' DG wd6.heap.size 24 (signed (seedAt seed j) msg)) (Pr.own' DG wd6.heap.size 24 (way (publics seed (pw h)) j))), (45, Pr.ex (i64 ((0 : Nat) : Int)))] 8 N6 D6 ?_ ?_
 refine Ac ?_ (Ac ?_ (Ac ?_ (Ac ?_ (Ac ?_ (Ac ?_ (Ac ?_ (Ac ?_ (Az _))))))))
 exact Ap fun aq wq _ hO hR hT => does_loadD (o := 0) (n := 4) (mid := [w32 (seed).a, w32 (seed).b, w32 (seed).c, w32 (seed).d]) (oT hO s3_6 rfl) (B3_6.ext' hR) rfl rfl (nB rfl) row_24 rfl eR
 exact Am s7_6 rfl fun _ => rfl
 exact Am s9_6 rfl fun _ => rfl
 exact Ap fun aq wq _ hO hR hT => does_loadD (o := 0) (n := 4) (mid := [w32 (msg).a, w32 (msg).b, w32 (msg).c, w32 (msg).d]) (oT hO s5_6 rfl) (B5_6.ext' hR) rfl rfl (nB rfl) row_24 rfl eR
 exact Ap fun aq wq _ hO hR hT => does_ret (vs := #[Dg.val (seed), i64 (h : Int), i64 (j : Int), Dg.val (msg)]) call_8 (args4 (hT 39 rfl rfl) (hT 40 rfl rfl) (hT 41 rfl rfl) (hT 42 rfl rfl)) rfl ((keySign_k seed h j msg wq (hL.ext (E6.trans hR)) hn4 hj).mono fun v w2 h => ⟨h.2, by obtain ⟨x0, x1, hv, k0, k1⟩ := h.1; exact ⟨x0, x1, hv, (by obtain ⟨z0, z1, hz, kz0, kz1⟩ := k0; exact ⟨z0, z1, hz, OwnT.base kz0 hR.size', OwnT.base kz1 hR.size'⟩), k1⟩⟩)
 exact Ap fun aq wq _ hO hR hT => does_move rfl ⟨Ext.refl _, (hT 43 rfl rfl)⟩
 exact Ap fun aq wq _ hO hR hT => by
  obtain ⟨x0, x1, hv, k0, k1⟩ := (hT 38 rfl rfl)
  exact does_extract hv rfl ⟨Ext.refl _, k0⟩
 exact Ap fun aq wq _ hO hR hT => by
  obtain ⟨x0, x1, hv, k0, k1⟩ := (hT 38 rfl rfl)
  exact does_extract (V := i64 ((0 : Nat) : Int)) hv (by rw [show x1 = i64 ((0 : Nat) : Int) from k1]; rfl) ⟨Ext.refl _, rfl⟩
 intro a7 wd7 N7 D7 hO hR hA hU
 obtain ⟨_, _, _, _, _, _, t44, t45, _⟩ := hA
 have E7 := E6.trans hR
 have s3_7 := oT hO s3_6 rfl
 have s5_7 := oT hO s5_6 rfl
 have s7_7 := oT hO s7_6 rfl
 have s9_7 := oT hO s9_6 rfl
 have s10_7 := oT hO s10_6 rfl
 have B3_7 := B3_6.ext' hR
 have B4_7 := B4_6.ext' hR
 have B5_7 := B5_6.ext' hR
 obtain ⟨x44_0_7, x44_1_7, s44_7, ky44_0_7, ky44_1_7⟩ := t44
 replace ky44_0_7 : OwnT DG wd6.heap.size 24 (signed (seedAt seed j) msg) x44_0_7 wd7 := ky44_0_7
 have nbo_x44_0_7_b3 := Ob1 ky44_0_7 B3_6
 have nbo_x44_0_7_b4 := Ob1 ky44_0_7 B4_6
 have nbo_x44_0_7_b5 := Ob1 ky44_0_7 B5_6
 have X44_0_7_7 := ky44_0_7.sl.wide (Nat.zero_le _) (.inl rfl)
 have O44_0_7_7 := OwnT.base ky44_0_7 E6.size'
 replace ky44_1_7 : OwnT DG wd6.heap.size 24 (way (publics seed (pw h)) j) x44_1_7 wd7 := ky44_1_7
 have nbo_x44_1_7_b3 := Ob1 ky44_1_7 B3_6
 have nbo_x44_1_7_b4 := Ob1 ky44_1_7 B4_6
 have nbo_x44_1_7_b5 := Ob1 ky44_1_7 B5_6
 have X44_1_7_7 := ky44_1_7.sl.wide (Nat.zero_le _) (.inl rfl)
 have O44_1_7_7 := OwnT.base ky44_1_7 E6.size'
 have s45_7 : get a7 45 = i64 ((0 : Nat) : Int) := t45
 clear E6 N6 D6 s3_6 s5_6 s7_6 s9_6 s10_6 B3_6 B4_6 B5_6
 refine tail_put rfl rfl N7 D7 (by decide) (does_alloc zero_30 (fun b11 wd8 he lo_b11 B11_8 => fun a8 N8 D8 hv hO => ?_))
 have s11_8 := hv
 have E8 := E7.trans he
 have B3_8 := B3_7.ext' he
 have B4_8 := B4_7.ext' he
 have B5_8 := B5_7.ext' he
 have X44_0_7_8 := X44_0_7_7.ext' he
 have X44_1_7_8 := X44_1_7_7.ext' he
 have O44_0_7_8 := O44_0_7_7.ext' he
 have O44_1_7_8 := O44_1_7_7.ext' he
 have fr_b11 : w0.heap.size ≤ b11 := Nat.le_trans E7.size' lo_b11
 have ne_b3_b11 := Hl B3_7 lo_b11
 have ne_b4_b11 := Hl B4_7 lo_b11
 have ne_b5_b11 := Hl B5_7 lo_b11
 have nb_x44_0_7_b11 := SlT.old X44_0_7_7 lo_b11
 have nb_x44_1_7_b11 := SlT.old X44_1_7_7 lo_b11
 have nbo_x44_0_7_b11 := Ol O44_0_7_7 lo_b11
 have nbo_x44_1_7_b11 := Ol O44_1_7_7 lo_b11
 have s3_8 := oT hO s3_7 rfl
 have s5_8 := oT hO s5_7 rfl
 have s7_8 := oT hO s7_7 rfl
 have s9_8 := oT hO s9_7 rfl
 have s10_8 := oT hO s10_7 rfl
 have s44_8 := oT hO s44_7 rfl
 have s45_8 := oT hO s45_7 rfl
 clear hO hv N7 D7 E7 B3_7 B4_7 B5_7 X44_0_7_7 X44_1_7_7 O44_0_7_7 O44_1_7_7 s3_7 s5_7 s7_7 s9_7 s10_7 s44_7 s45_7
 refine tail_none rfl rfl (does_storeD (o := 0) (n := 3) (cs' := [i64 (j : Int), x44_0_7, x44_1_7]) (V := Value.agg #[i64 (j : Int), x44_0_7, x44_1_7]) s11_8 s44_8 B11_8 (nB rfl) rfl siz_30 (one_cons rfl (one_cons (SlT.one X44_0_7_8) (one_cons (SlT.one X44_1_7_8) one_nil))) rfl (fun wd9 hX hz B11_9 => ?_))
 have E9 := E8.since hX (fun k e => e ▸ fr_b11)
 have B3_9 := B3_8.ext hX ne_b3_b11
 have B4_9 := B4_8.ext hX ne_b4_b11
 have B5_9 := B5_8.ext hX ne_b5_b11
 have X44_0_7_9 := SlT.over X44_0_7_8 hX nb_x44_0_7_b11
 have X44_1_7_9 := SlT.over X44_1_7_8 hX nb_x44_1_7_b11
 have O44_0_7_9 := OwnT.ext O44_0_7_8 hX (fun k hk e => nbo_x44_0_7_b11 (e ▸ hk))
 have O44_1_7_9 := OwnT.ext O44_1_7_8 hX (fun k hk e => nbo_x44_1_7_b11 (e ▸ hk))
 clear hX hz E8 B3_8 B4_8 B5_8 B11_8 X44_0_7_8 X44_1_7_8 O44_0_7_8 O44_1_7_8
 refine tail_put rfl rfl N8 D8 (by decide) (does_assign (V := i64 ((0 : Nat) : Int)) s45_8 (fun a10 N10 D10 hv hO => ?_))
 have s12_10 := hv
 have s3_10 := oT hO s3_8 rfl
 have s5_10 := oT hO s5_8 rfl
 have s7_10 := oT hO s7_8 rfl
 have s9_10 := oT hO s9_8 rfl
 have s10_10 := oT hO s10_8 rfl
 have s11_10 := oT hO s11_8 rfl
 clear hO hv N8 D8 s3_8 s5_8 s7_8 s9_8 s10_8 s11_8 s44_8 s45_8
 refine tail_nil ?_
 refine wp_seq ?_
 refine Rl [13] [(47, Pr.ex (Dg.val (seed))), (48, Pr.ex (i64 (h : Int))), (49, Pr.ex (Value.tuple #[Dg.val (root (publics seed (pw h))), i64 ((0 : Nat) : Int)])), (46, Pr.ex (Value.tuple #[Dg.val (root (publics seed (pw h))), i64 ((0 : Nat) : Int)])), (50, Pr.ex (Dg.val (root (publics seed (pw h))))), (51, Pr.ex (i64 ((0 : Nat) : Int))), (13, Pr.box' wd9.heap.size 24 [w32 (Dg.zero).a, w32 (Dg.zero).b, w32 (Dg.zero).c, w32 (Dg.zero).d])] 7 N10 D10 ?_ ?_
 refine Ac ?_ (Ac ?_ (Ac ?_ (Ac ?_ (Ac ?_ (Ac ?_ (Ac ?_ (Az _)))))))
 exact Ap fun aq wq _ hO hR hT => does_loadD (o := 0) (n := 4) (mid := [w32 (seed).a, w32 (seed).b, w32 (seed).c, w32 (seed).d]) (oT hO s3_10 rfl) (B3_9.ext' hR) rfl rfl (nB rfl) row_24 rfl eR
 exact Am s7_10 rfl fun _ => rfl
 exact Ap fun aq wq _ hO hR hT => does_ret (vs := #[Dg.val (seed), i64 (h : Int)]) call_11 (args2 (hT 47 rfl rfl) (hT 48 rfl rfl)) rfl ((keyPub_k seed h wq (hL.ext (E9.trans hR)) hn4).mono fun v w2 h => ⟨h.2, h.1⟩)
 exact Ap fun aq wq _ hO hR hT => does_move (V := Value.tuple #[Dg.val (root (publics seed (pw h))), i64 ((0 : Nat) : Int)]) (hT 49 rfl rfl) eR
 exact Ap fun aq wq _ hO hR hT => does_extract (V := Dg.val (root (publics seed (pw h)))) (hT 46 rfl rfl) rfl eR
 exact Ap fun aq wq _ hO hR hT => does_extract (V := i64 ((0 : Nat) : Int)) (hT 46 rfl rfl) rfl eR
 refine Ask.fresh rfl rfl ?_
 intro aq wq hNq hO hR hT
 exact does_alloc zero_24 (fun b w2 he hlo hb => ⟨he, ⟨b, rfl, Nat.le_trans hR.size' hlo, hb⟩, ⟨b, rfl, hlo, hb.lt⟩⟩)
 intro a11 wd11 N11 D11 hO hR hA hU
 obtain ⟨_, _, _, _, t50, t51, t13, _⟩ := hA
 have E11 := E9.trans hR
 have s3_11 := oT hO s3_10 rfl
 have s5_11 := oT hO s5_10 rfl
 have s7_11 := oT hO s7_10 rfl
 have s9_11 := oT hO s9_10 rfl
 have s10_11 := oT hO s10_10 rfl
 have s11_11 := oT hO s11_10 rfl
 have s12_11 := oT hO s12_10 rfl
 have B3_11 := B3_9.ext' hR
 have B4_11 := B4_9.ext' hR
 have B5_11 := B5_9.ext' hR
 have B11_11 := B11_9.ext' hR
 have X44_0_7_11 := X44_0_7_9.ext' hR
 have X44_1_7_11 := X44_1_7_9.ext' hR
 have O44_0_7_11 := O44_0_7_9.ext' hR
 have O44_1_7_11 := O44_1_7_9.ext' hR
 have s50_11 : get a11 50 = Dg.val (root (publics seed (pw h))) := t50
 have s51_11 : get a11 51 = i64 ((0 : Nat) : Int) := t51
 obtain ⟨b13, s13_11, lo_b13, B13_11⟩ := t13
 have ne_b3_b13 := Hl B3_9 lo_b13
 have ne_b4_b13 := Hl B4_9 lo_b13
 have ne_b5_b13 := Hl B5_9 lo_b13
 have ne_b11_b13 := Hl B11_9 lo_b13
 have nb_x44_0_7_b13 := SlT.old X44_0_7_9 lo_b13
 have nb_x44_1_7_b13 := SlT.old X44_1_7_9 lo_b13
 have nbo_x44_0_7_b13 := Ol O44_0_7_9 lo_b13
 have nbo_x44_1_7_b13 := Ol O44_1_7_9 lo_b13
 have fr_b13 : w0.heap.size ≤ b13 := Nat.le_trans E9.size' lo_b13
 clear E9 N10 D10 s3_10 s5_10 s7_10 s9_10 s10_10 s11_10 s12_10 B3_9 B4_9 B5_9 B11_9 X44_0_7_9 X44_1_7_9 O44_0_7_9 O44_1_7_9
 refine tail_none rfl rfl (does_storeD (o := 0) (n := 4) (cs' := [w32 (root (publics seed (pw h))).a, w32 (root (publics seed (pw h))).b, w32 (root (publics seed (pw h))).c, w32 (root (publics seed (pw h))).d]) (V := Dg.val (root (publics seed (pw h)))) s13_11 s50_11 B13_11 (nB rfl) rfl siz_24 rfl rfl (fun wd12 hX hz B13_12 => ?_))
 have E12 := E11.since hX (fun k e => e ▸ fr_b13)
 have B3_12 := B3_11.ext hX ne_b3_b13
 have B4_12 := B4_11.ext hX ne_b4_b13
 have B5_12 := B5_11.ext hX ne_b5_b13
 have B11_12 := B11_11.ext hX ne_b11_b13
 have X44_0_7_12 := SlT.over X44_0_7_11 hX nb_x44_0_7_b13
 have X44_1_7_12 := SlT.over X44_1_7_11 hX nb_x44_1_7_b13
 have O44_0_7_12 := OwnT.ext O44_0_7_11 hX (fun k hk e => nbo_x44_0_7_b13 (e ▸ hk))
 have O44_1_7_12 := OwnT.ext O44_1_7_11 hX (fun k hk e => nbo_x44_1_7_b13 (e ▸ hk))
 clear hX hz E11 B3_11 B4_11 B5_11 B11_11 B13_11 X44_0_7_11 X44_1_7_11 O44_0_7_11 O44_1_7_11
 refine tail_put rfl rfl N11 D11 (by decide) (does_assign (V := i64 ((0 : Nat) : Int)) s51_11 (fun a13 N13 D13 hv hO => ?_))
 have s14_13 := hv
 have s3_13 := oT hO s3_11 rfl
 have s5_13 := oT hO s5_11 rfl
 have s7_13 := oT hO s7_11 rfl
 have s9_13 := oT hO s9_11 rfl
 have s10_13 := oT hO s10_11 rfl
 have s11_13 := oT hO s11_11 rfl
 have s12_13 := oT hO s12_11 rfl
 have s13_13 := oT hO s13_11 rfl
 clear hO hv N11 D11 s3_11 s5_11 s7_11 s9_11 s10_11 s11_11 s12_11 s13_11 s50_11 s51_11
 refine tail_nil ?_
 refine wp_seq ?_
 refine wp_seq ?_
 refine Rl [] [(52, Pr.ex (i64 ((0 : Nat) : Int))), (53, Pr.ex (Value.bool (false))), (54, Pr.ex (Value.bool (false))), (55, Pr.ifb (!false) (Pr.ex (i64 ((0 : Nat) : Int)))), (56, Pr.ifb (!false) (Pr.ex (Value.bool (false)))), (57, Pr.ex (Value.bool (false || false))), (58, Pr.ex (Value.bool (false || false))), (59, Pr.ifb (!(false || false)) (Pr.ex (Dg.val (root (publics seed (pw h)))))), (60, Pr.ifb (!(false || false)) (Pr.ex (Dg.val (msg)))), (61, Pr.ifb (!(false || false)) (Pr.ex (Value.agg #[i64 (j : Int), x44_0_7, x44_1_7]))), (62, Pr.ifb (!(false || false)) (Pr.ex (Value.bool (keyCheck (root (publics seed (pw h))) msg ((j : Int)) (signed (seedAt seed j) msg) (way (publics seed (pw h)) j))))), (63, Pr.ifb (!(false || false)) (Pr.ex (Value.bool (!(keyCheck (root (publics seed (pw h))) msg ((j : Int)) (signed (seedAt seed j) msg) (way (publics seed (pw h)) j)))))), (64, Pr.ex (Value.bool ((false || false) || (!(keyCheck (root (publics seed (pw h))) msg ((j : Int)) (signed (seedAt seed j) msg) (way (publics seed (pw h)) j))))))] 13 N13 D13 ?_ ?_
 refine Ac ?_ (Ac ?_ (Ac ?_ (Ac ?_ (Ac ?_ (Ac ?_ (Ac ?_ (Ac ?_ (Ac ?_ (Ac ?_ (Ac ?_ (Ac ?_ (Ac ?_ (Az _)))))))))))))
 exact Am s12_13 rfl fun _ => rfl
 exact Ap fun aq wq _ hO hR hT => does_neq (a := ((0 : Nat) : Int)) (b := ((0 : Nat) : Int)) (hT 52 rfl rfl) rfl eR
 exact Ap fun aq wq _ hO hR hT => does_move (V := Value.bool (false)) (hT 53 rfl rfl) eR
 refine Ask.guarded (B := false) (want := false) (t := 54) rfl rfl rfl rfl (by decide) (fun aq wq hO hR hT => hT 54 rfl rfl) (fun hG aq wq hNq hO hR hT => ?_) (fun hno _ => fun hc => absurd (bn hc) hno)
 replace hG := nb hG
 exact does_move (V := i64 ((0 : Nat) : Int)) (oT hO s14_13 rfl) ⟨Ext.refl _, fun _ => rfl⟩
 refine Ask.guarded (B := false) (want := false) (t := 54) rfl rfl rfl rfl (by decide) (fun aq wq hO hR hT => hT 54 rfl rfl) (fun hG aq wq hNq hO hR hT => ?_) (fun hno _ => fun hc => absurd (bn hc) hno)
 replace hG := nb hG
 exact does_neq (a := ((0 : Nat) : Int)) (b := ((0 : Nat) : Int)) (hT 55 rfl rfl hG) rfl ⟨Ext.refl _, fun _ => rfl⟩
 exact Ap fun aq wq _ hO hR hT => does_or (B := false) (X := false) (hT 54 rfl rfl) rfl (fun hB => (hT 56 rfl rfl (nb hB))) eR
 exact Ap fun aq wq _ hO hR hT => does_move (V := Value.bool (false || false)) (hT 57 rfl rfl) eR
 refine Ask.guarded (B := false || false) (want := false) (t := 58) rfl rfl rfl rfl (by decide) (fun aq wq hO hR hT => hT 58 rfl rfl) (fun hG aq wq hNq hO hR hT => ?_) (fun hno _ => fun hc => absurd (bn hc) hno)
 replace hG := nb hG
 exact does_loadD (o := 0) (n := 4) (mid := [w32 (root (publics seed (pw h))).a, w32 (root (publics seed (pw h))).b, w32 (root (publics seed (pw h))).c, w32 (root (publics seed (pw h))).d]) (oT hO s13_13 rfl) (B13_12.ext' hR) rfl rfl (nB rfl) row_24 rfl ⟨Ext.refl _, fun _ => rfl⟩
 refine Ask.guarded (B := false || false) (want := false) (t := 58) rfl rfl rfl rfl (by decide) (fun aq wq hO hR hT => hT 58 rfl rfl) (fun hG aq wq hNq hO hR hT => ?_) (fun hno _ => fun hc => absurd (bn hc) hno)
 replace hG := nb hG
 exact does_loadD (o := 0) (n := 4) (mid := [w32 (msg).a, w32 (msg).b, w32 (msg).c, w32 (msg).d]) (oT hO s5_13 rfl) (B5_12.ext' hR) rfl rfl (nB rfl) row_24 rfl ⟨Ext.refl _, fun _ => rfl⟩
 refine Ask.guarded (B := false || false) (want := false) (t := 58) rfl rfl rfl rfl (by decide) (fun aq wq hO hR hT => hT 58 rfl rfl) (fun hG aq wq hNq hO hR hT => ?_) (fun hno _ => fun hc => absurd (bn hc) hno)
 replace hG := nb hG
 exact does_loadD (o := 0) (n := 3) (mid := [i64 (j : Int), x44_0_7, x44_1_7]) (oT hO s11_13 rfl) (B11_12.ext' hR) rfl rfl (nB rfl) row_30 rfl ⟨Ext.refl _, fun _ => rfl⟩
 refine Ask.guarded (B := false || false) (want := false) (t := 58) rfl rfl rfl rfl (by decide) (fun aq wq hO hR hT => hT 58 rfl rfl) (fun hG aq wq hNq hO hR hT => ?_) (fun hno _ => fun hc => absurd (bn hc) hno)
 replace hG := nb hG
 exact does_ret (vs := #[Dg.val (root (publics seed (pw h))), Dg.val (msg), Value.agg #[i64 (j : Int), x44_0_7, x44_1_7]]) call_12 (args3 (hT 59 rfl rfl hG) (hT 60 rfl rfl hG) (hT 61 rfl rfl hG)) rfl ((keyCheck_ (root (publics seed (pw h))) msg ((j : Int)) (signed (seedAt seed j) msg) (way (publics seed (pw h)) j) (x44_0_7) (x44_1_7) wq (hL.ext (E12.trans hR)) ((X44_0_7_12.ext' hR).wide (Nat.zero_le _) (.inl rfl)) ((X44_1_7_12.ext' hR).wide (Nat.zero_le _) (.inl rfl)) (by rw [signed_length]; decide) (by rw [way_pw h _ _ (publics_length _ _) (by rw [publics_length]; exact hj)]; omega)).mono fun v w2 h => ⟨h.2, fun _ => h.1⟩)
 refine Ask.guarded (B := false || false) (want := false) (t := 58) rfl rfl rfl rfl (by decide) (fun aq wq hO hR hT => hT 58 rfl rfl) (fun hG aq wq hNq hO hR hT => ?_) (fun hno _ => fun hc => absurd (bn hc) hno)
 replace hG := nb hG
 exact does_not (B := keyCheck (root (publics seed (pw h))) msg ((j : Int)) (signed (seedAt seed j) msg) (way (publics seed (pw h)) j)) (hT 62 rfl rfl hG) ⟨Ext.refl _, fun _ => rfl⟩
 exact Ap fun aq wq _ hO hR hT => does_or (B := false || false) (X := !(keyCheck (root (publics seed (pw h))) msg ((j : Int)) (signed (seedAt seed j) msg) (way (publics seed (pw h)) j))) (hT 58 rfl rfl) rfl (fun hB => (hT 63 rfl rfl (nb hB))) eR
 intro a14 wd14 N14 D14 hO hR hA hU
 obtain ⟨_, _, _, _, _, _, _, _, _, _, _, _, t64, _⟩ := hA
 have E14 := E12.trans hR
 have s3_14 := oT hO s3_13 rfl
 have s5_14 := oT hO s5_13 rfl
 have s7_14 := oT hO s7_13 rfl
 have s9_14 := oT hO s9_13 rfl
 have s10_14 := oT hO s10_13 rfl
 have s11_14 := oT hO s11_13 rfl
 have s13_14 := oT hO s13_13 rfl
 have B3_14 := B3_12.ext' hR
 have B4_14 := B4_12.ext' hR
 have B5_14 := B5_12.ext' hR
 have B11_14 := B11_12.ext' hR
 have B13_14 := B13_12.ext' hR
 have X44_0_7_14 := X44_0_7_12.ext' hR
 have X44_1_7_14 := X44_1_7_12.ext' hR
 have O44_0_7_14 := O44_0_7_12.ext' hR
 have O44_1_7_14 := O44_1_7_12.ext' hR
 have s64_14 : get a14 64 = Value.bool ((false || false) || (!(keyCheck (root (publics seed (pw h))) msg ((j : Int)) (signed (seedAt seed j) msg) (way (publics seed (pw h)) j)))) := t64
 clear E12 N13 D13 s3_13 s5_13 s7_13 s9_13 s10_13 s11_13 s12_13 s13_13 s14_13 B3_12 B4_12 B5_12 B11_12 B13_12 X44_0_7_12 X44_1_7_12 O44_0_7_12 O44_1_7_12
 refine tail_nil ?_
 refine wp_if (B := (false || false) || (!(keyCheck (root (publics seed (pw h))) msg ((j : Int)) (signed (seedAt seed j) msg) (way (publics seed (pw h)) j)))) s64_14 (fun hc0 => ?_) (fun hc0 => ?_)
 rw [keyCheck_sign hn4 hj] at hc0; simp at hc0
 refine wp_skip ?_
 refine wp_seq ?_
 refine Rl [15] [(65, Pr.ex (Value.agg #[i64 (j : Int), x44_0_7, x44_1_7])), (15, Pr.box' wd14.heap.size 30 [i64 ((0 : Nat) : Int), Value.slice none 0 0, Value.slice none 0 0])] 2 N14 D14 ?_ ?_
 refine Ac ?_ (Ac ?_ (Az _))
 exact Ap fun aq wq _ hO hR hT => does_loadD (o := 0) (n := 3) (mid := [i64 (j : Int), x44_0_7, x44_1_7]) (oT hO s11_14 rfl) (B11_14.ext' hR) rfl rfl (nB rfl) row_30 rfl eR
 refine Ask.fresh rfl rfl ?_
 intro aq wq hNq hO hR hT
 exact does_alloc zero_30 (fun b w2 he hlo hb => ⟨he, ⟨b, rfl, Nat.le_trans hR.size' hlo, hb⟩, ⟨b, rfl, hlo, hb.lt⟩⟩)
 intro a15 wd15 N15 D15 hO hR hA hU
 obtain ⟨t65, t15, _⟩ := hA
 have E15 := E14.trans hR
 have s3_15 := oT hO s3_14 rfl
 have s5_15 := oT hO s5_14 rfl
 have s7_15 := oT hO s7_14 rfl
 have s9_15 := oT hO s9_14 rfl
 have s10_15 := oT hO s10_14 rfl
 have s13_15 := oT hO s13_14 rfl
 have B3_15 := B3_14.ext' hR
 have B4_15 := B4_14.ext' hR
 have B5_15 := B5_14.ext' hR
 have B11_15 := B11_14.ext' hR
 have B13_15 := B13_14.ext' hR
 have X44_0_7_15 := X44_0_7_14.ext' hR
 have X44_1_7_15 := X44_1_7_14.ext' hR
 have O44_0_7_15 := O44_0_7_14.ext' hR
 have O44_1_7_15 := O44_1_7_14.ext' hR
 have s65_15 : get a15 65 = Value.agg #[i64 (j : Int), x44_0_7, x44_1_7] := t65
 obtain ⟨b15, s15_15, lo_b15, B15_15⟩ := t15
 have ne_b3_b15 := Hl B3_14 lo_b15
 have ne_b4_b15 := Hl B4_14 lo_b15
 have ne_b5_b15 := Hl B5_14 lo_b15
 have ne_b11_b15 := Hl B11_14 lo_b15
 have ne_b13_b15 := Hl B13_14 lo_b15
 have nb_x44_0_7_b15 := SlT.old X44_0_7_14 lo_b15
 have nb_x44_1_7_b15 := SlT.old X44_1_7_14 lo_b15
 have nbo_x44_0_7_b15 := Ol O44_0_7_14 lo_b15
 have nbo_x44_1_7_b15 := Ol O44_1_7_14 lo_b15
 have fr_b15 : w0.heap.size ≤ b15 := Nat.le_trans E14.size' lo_b15
 clear E14 N14 D14 s3_14 s5_14 s7_14 s9_14 s10_14 s11_14 s13_14 s64_14 B3_14 B4_14 B5_14 B11_14 B13_14 X44_0_7_14 X44_1_7_14 O44_0_7_14 O44_1_7_14
 refine tail_none rfl rfl (does_storeD (o := 0) (n := 3) (cs' := [i64 (j : Int), x44_0_7, x44_1_7]) (V := Value.agg #[i64 (j : Int), x44_0_7, x44_1_7]) s15_15 s65_15 B15_15 (nB rfl) rfl siz_30 (one_cons rfl (one_cons (SlT.one X44_0_7_15) (one_cons (SlT.one X44_1_7_15) one_nil))) rfl (fun wd16 hX hz B15_16 => ?_))
 have E16 := E15.since hX (fun k e => e ▸ fr_b15)
 have B3_16 := B3_15.ext hX ne_b3_b15
 have B4_16 := B4_15.ext hX ne_b4_b15
 have B5_16 := B5_15.ext hX ne_b5_b15
 have B11_16 := B11_15.ext hX ne_b11_b15
 have B13_16 := B13_15.ext hX ne_b13_b15
 have X44_0_7_16 := SlT.over X44_0_7_15 hX nb_x44_0_7_b15
 have X44_1_7_16 := SlT.over X44_1_7_15 hX nb_x44_1_7_b15
 have O44_0_7_16 := OwnT.ext O44_0_7_15 hX (fun k hk e => nbo_x44_0_7_b15 (e ▸ hk))
 have O44_1_7_16 := OwnT.ext O44_1_7_15 hX (fun k hk e => nbo_x44_1_7_b15 (e ▸ hk))
 clear hX hz E15 B3_15 B4_15 B5_15 B11_15 B13_15 B15_15 X44_0_7_15 X44_1_7_15 O44_0_7_15 O44_1_7_15
 refine tail_nil ?_
 refine wp_seq ?_
 refine Rl [] [(66, Pr.ex (i64 (k : Int))), (67, Pr.ex (Value.pointer (some ⟨b15, 0, none⟩)))] 2 N15 D15 ?_ ?_
 refine Ac ?_ (Ac ?_ (Az _))
 exact Am s10_15 rfl fun _ => rfl
 exact Ap fun aq wq _ hO hR hT => does_field (o' := 0) fld_30_0 (oT hO s15_15 rfl) rfl eR
 intro a17 wd17 N17 D17 hO hR hA hU
 obtain ⟨t66, t67, _⟩ := hA
 have E17 := E16.trans hR
 have s3_17 := oT hO s3_15 rfl
 have s5_17 := oT hO s5_15 rfl
 have s7_17 := oT hO s7_15 rfl
 have s9_17 := oT hO s9_15 rfl
 have s10_17 := oT hO s10_15 rfl
 have s13_17 := oT hO s13_15 rfl
 have s15_17 := oT hO s15_15 rfl
 have B3_17 := B3_16.ext' hR
 have B4_17 := B4_16.ext' hR
 have B5_17 := B5_16.ext' hR
 have B11_17 := B11_16.ext' hR
 have B13_17 := B13_16.ext' hR
 have B15_17 := B15_16.ext' hR
 have X44_0_7_17 := X44_0_7_16.ext' hR
 have X44_1_7_17 := X44_1_7_16.ext' hR
 have O44_0_7_17 := O44_0_7_16.ext' hR
 have O44_1_7_17 := O44_1_7_16.ext' hR
 have s66_17 : get a17 66 = i64 (k : Int) := t66
 have s67_17 : get a17 67 = Value.pointer (some ⟨b15, 0, none⟩) := t67
 clear E16 N15 D15 s3_15 s5_15 s7_15 s9_15 s10_15 s13_15 s15_15 s65_15 B3_16 B4_16 B5_16 B11_16 B13_16 B15_16 X44_0_7_16 X44_1_7_16 O44_0_7_16 O44_1_7_16
 refine tail_none rfl rfl (does_storeD (o := 0) (n := 1) (cs' := [i64 (k : Int), x44_0_7, x44_1_7]) (V := i64 (k : Int)) s67_17 s66_17 B15_17 (nB rfl) rfl siz_3 rfl rfl (fun wd18 hX hz B15_18 => ?_))
 have E18 := E17.since hX (fun k e => e ▸ fr_b15)
 have B3_18 := B3_17.ext hX ne_b3_b15
 have B4_18 := B4_17.ext hX ne_b4_b15
 have B5_18 := B5_17.ext hX ne_b5_b15
 have B11_18 := B11_17.ext hX ne_b11_b15
 have B13_18 := B13_17.ext hX ne_b13_b15
 have X44_0_7_18 := SlT.over X44_0_7_17 hX nb_x44_0_7_b15
 have X44_1_7_18 := SlT.over X44_1_7_17 hX nb_x44_1_7_b15
 have O44_0_7_18 := OwnT.ext O44_0_7_17 hX (fun k hk e => nbo_x44_0_7_b15 (e ▸ hk))
 have O44_1_7_18 := OwnT.ext O44_1_7_17 hX (fun k hk e => nbo_x44_1_7_b15 (e ▸ hk))
 clear hX hz E17 B3_17 B4_17 B5_17 B11_17 B13_17 B15_17 X44_0_7_17 X44_1_7_17 O44_0_7_17 O44_1_7_17
 refine tail_nil ?_
 refine wp_seq ?_
 refine wp_seq ?_
 refine Rl [] [(68, Pr.ex (Dg.val (root (publics seed (pw h))))), (69, Pr.ex (Dg.val (msg))), (70, Pr.ex (Value.agg #[i64 (k : Int), x44_0_7, x44_1_7])), (71, Pr.ex (Value.bool (keyCheck (root (publics seed (pw h))) msg ((k : Int)) (signed (seedAt seed j) msg) (way (publics seed (pw h)) j)))), (72, Pr.ex (Value.bool (!(keyCheck (root (publics seed (pw h))) msg ((k : Int)) (signed (seedAt seed j) msg) (way (publics seed (pw h)) j)))))] 5 N17 D17 ?_ ?_
 refine Ac ?_ (Ac ?_ (Ac ?_ (Ac ?_ (Ac ?_ (Az _)))))
 exact Ap fun aq wq _ hO hR hT => does_loadD (o := 0) (n := 4) (mid := [w32 (root (publics seed (pw h))).a, w32 (root (publics seed (pw h))).b, w32 (root (publics seed (pw h))).c, w32 (root (publics seed (pw h))).d]) (oT hO s13_17 rfl) (B13_18.ext' hR) rfl rfl (nB rfl) row_24 rfl eR
 exact Ap fun aq wq _ hO hR hT => does_loadD (o := 0) (n := 4) (mid := [w32 (msg).a, w32 (msg).b, w32 (msg).c, w32 (msg).d]) (oT hO s5_17 rfl) (B5_18.ext' hR) rfl rfl (nB rfl) row_24 rfl eR
 exact Ap fun aq wq _ hO hR hT => does_loadD (o := 0) (n := 3) (mid := [i64 (k : Int), x44_0_7, x44_1_7]) (oT hO s15_17 rfl) (B15_18.ext' hR) rfl rfl (nB rfl) row_30 rfl eR
 exact Ap fun aq wq _ hO hR hT => does_ret (vs := #[Dg.val (root (publics seed (pw h))), Dg.val (msg), Value.agg #[i64 (k : Int), x44_0_7, x44_1_7]]) call_12 (args3 (hT 68 rfl rfl) (hT 69 rfl rfl) (hT 70 rfl rfl)) rfl ((keyCheck_ (root (publics seed (pw h))) msg ((k : Int)) (signed (seedAt seed j) msg) (way (publics seed (pw h)) j) (x44_0_7) (x44_1_7) wq (hL.ext (E18.trans hR)) ((X44_0_7_18.ext' hR).wide (Nat.zero_le _) (.inl rfl)) ((X44_1_7_18.ext' hR).wide (Nat.zero_le _) (.inl rfl)) (by rw [signed_length]; decide) (by rw [way_pw h _ _ (publics_length _ _) (by rw [publics_length]; exact hj)]; omega)).mono fun v w2 h => ⟨h.2, h.1⟩)
 exact Ap fun aq wq _ hO hR hT => does_not (B := keyCheck (root (publics seed (pw h))) msg ((k : Int)) (signed (seedAt seed j) msg) (way (publics seed (pw h)) j)) (hT 71 rfl rfl) eR
 intro a19 wd19 N19 D19 hO hR hA hU
 obtain ⟨_, _, _, _, t72, _⟩ := hA
 have E19 := E18.trans hR
 have s3_19 := oT hO s3_17 rfl
 have s5_19 := oT hO s5_17 rfl
 have s7_19 := oT hO s7_17 rfl
 have s9_19 := oT hO s9_17 rfl
 have s10_19 := oT hO s10_17 rfl
 have s15_19 := oT hO s15_17 rfl
 have B3_19 := B3_18.ext' hR
 have B4_19 := B4_18.ext' hR
 have B5_19 := B5_18.ext' hR
 have B11_19 := B11_18.ext' hR
 have B13_19 := B13_18.ext' hR
 have B15_19 := B15_18.ext' hR
 have X44_0_7_19 := X44_0_7_18.ext' hR
 have X44_1_7_19 := X44_1_7_18.ext' hR
 have O44_0_7_19 := O44_0_7_18.ext' hR
 have O44_1_7_19 := O44_1_7_18.ext' hR
 have s72_19 : get a19 72 = Value.bool (!(keyCheck (root (publics seed (pw h))) msg ((k : Int)) (signed (seedAt seed j) msg) (way (publics seed (pw h)) j))) := t72
 clear E18 N17 D17 s3_17 s5_17 s7_17 s9_17 s10_17 s13_17 s15_17 s66_17 s67_17 B3_18 B4_18 B5_18 B11_18 B13_18 B15_18 X44_0_7_18 X44_1_7_18 O44_0_7_18 O44_1_7_18
 refine tail_nil ?_
 refine wp_if (B := !(keyCheck (root (publics seed (pw h))) msg ((k : Int)) (signed (seedAt seed j) msg) (way (publics seed (pw h)) j))) s72_19 (fun hc1 => ?_) (fun hc1 => ?_)
 refine wp_seq ?_
 refine Rl [] [(6, Pr.ex (Value.bool (true)))] 1 N19 D19 ?_ ?_
 refine Ac ?_ (Az _)
 exact Ap fun aq wq _ hO hR hT => does_assign (V := Value.bool (true)) rfl eR
 intro a20 wd20 N20 D20 hO hR hA hU
 obtain ⟨t6, _⟩ := hA
 have E20 := E19.trans hR
 have B3_20 := B3_19.ext' hR
 have B4_20 := B4_19.ext' hR
 have B5_20 := B5_19.ext' hR
 have B11_20 := B11_19.ext' hR
 have B13_20 := B13_19.ext' hR
 have B15_20 := B15_19.ext' hR
 have X44_0_7_20 := X44_0_7_19.ext' hR
 have X44_1_7_20 := X44_1_7_19.ext' hR
 have O44_0_7_20 := O44_0_7_19.ext' hR
 have O44_1_7_20 := O44_1_7_19.ext' hR
 have s6_20 : get a20 6 = Value.bool (true) := t6
 clear E19 N19 D19 s3_19 s5_19 s7_19 s9_19 s10_19 s15_19 s72_19 B3_19 B4_19 B5_19 B11_19 B13_19 B15_19 X44_0_7_19 X44_1_7_19 O44_0_7_19 O44_1_7_19
 refine tail_nil ?_
 refine wp_ret ?_
 refine res_one (V := Value.bool (true)) rfl D20 s6_20 ?_
 exact ⟨rfl, E20⟩
 have hkc : keyCheck (root (publics seed (pw h))) msg (k : Int) (signed (seedAt seed j) msg) (way (publics seed (pw h)) j) = true := by simpa using hc1
 refine wp_skip ?_
 refine wp_seq ?_
 refine Rl [] [(74, Pr.ex (Dg.val (seed))), (75, Pr.ex (i64 (h : Int))), (76, Pr.ex (i64 (k : Int))), (77, Pr.ex (Dg.val (msg))), (78, Pr.t2 (Pr.ag2 (fun x y => Value.agg #[i64 (k : Int), x, y]) (Pr.own' DG wd19.heap.size 24 (signed (seedAt seed k) msg)) (Pr.own' DG wd19.heap.size 24 (way (publics seed (pw h)) k))) (Pr.ex (i64 ((0 : Nat) : Int)))), (73, Pr.t2 (Pr.ag2 (fun x y => Value.agg #[i64 (k : Int), x, y]) (Pr.own' DG wd19.heap.size 24 (signed (seedAt seed k) msg)) (Pr.own' DG wd19.heap.size 24 (way (publics seed (pw h)) k))) (Pr.ex (i64 ((0 : Nat) : Int)))), (79, Pr.ag2 (fun x y => Value.agg #[i64 (k : Int), x, y]) (Pr.own' DG wd19.heap.size 24 (signed (seedAt seed k) msg)) (Pr.own' DG wd19.heap.size 24 (way (publics seed (pw h)) k))), (80, Pr.ex (i64 ((0 : Nat) : Int)))] 8 N19 D19 ?_ ?_
 refine Ac ?_ (Ac ?_ (Ac ?_ (Ac ?_ (Ac ?_ (Ac ?_ (Ac ?_ (Ac ?_ (Az _))))))))
 exact Ap fun aq wq _ hO hR hT => does_loadD (o := 0) (n := 4) (mid := [w32 (seed).a, w32 (seed).b, w32 (seed).c, w32 (seed).d]) (oT hO s3_19 rfl) (B3_19.ext' hR) rfl rfl (nB rfl) row_24 rfl eR
 exact Am s7_19 rfl fun _ => rfl
 exact Am s10_19 rfl fun _ => rfl
 exact Ap fun aq wq _ hO hR hT => does_loadD (o := 0) (n := 4) (mid := [w32 (msg).a, w32 (msg).b, w32 (msg).c, w32 (msg).d]) (oT hO s5_19 rfl) (B5_19.ext' hR) rfl rfl (nB rfl) row_24 rfl eR
 exact Ap fun aq wq _ hO hR hT => does_ret (vs := #[Dg.val (seed), i64 (h : Int), i64 (k : Int), Dg.val (msg)]) call_8 (args4 (hT 74 rfl rfl) (hT 75 rfl rfl) (hT 76 rfl rfl) (hT 77 rfl rfl)) rfl ((keySign_k seed h k msg wq (hL.ext (E19.trans hR)) hn4 hk).mono fun v w2 h => ⟨h.2, by obtain ⟨x0, x1, hv, k0, k1⟩ := h.1; exact ⟨x0, x1, hv, (by obtain ⟨z0, z1, hz, kz0, kz1⟩ := k0; exact ⟨z0, z1, hz, OwnT.base kz0 hR.size', OwnT.base kz1 hR.size'⟩), k1⟩⟩)
 exact Ap fun aq wq _ hO hR hT => does_move rfl ⟨Ext.refl _, (hT 78 rfl rfl)⟩
 exact Ap fun aq wq _ hO hR hT => by
  obtain ⟨x0, x1, hv, k0, k1⟩ := (hT 73 rfl rfl)
  exact does_extract hv rfl ⟨Ext.refl _, k0⟩
 exact Ap fun aq wq _ hO hR hT => by
  obtain ⟨x0, x1, hv, k0, k1⟩ := (hT 73 rfl rfl)
  exact does_extract (V := i64 ((0 : Nat) : Int)) hv (by rw [show x1 = i64 ((0 : Nat) : Int) from k1]; rfl) ⟨Ext.refl _, rfl⟩
 intro a21 wd21 N21 D21 hO hR hA hU
 obtain ⟨_, _, _, _, _, _, t79, t80, _⟩ := hA
 have E21 := E19.trans hR
 have s3_21 := oT hO s3_19 rfl
 have s7_21 := oT hO s7_19 rfl
 have s9_21 := oT hO s9_19 rfl
 have s10_21 := oT hO s10_19 rfl
 have s15_21 := oT hO s15_19 rfl
 have B3_21 := B3_19.ext' hR
 have B4_21 := B4_19.ext' hR
 have B5_21 := B5_19.ext' hR
 have B11_21 := B11_19.ext' hR
 have B13_21 := B13_19.ext' hR
 have B15_21 := B15_19.ext' hR
 have X44_0_7_21 := X44_0_7_19.ext' hR
 have X44_1_7_21 := X44_1_7_19.ext' hR
 have O44_0_7_21 := O44_0_7_19.ext' hR
 have O44_1_7_21 := O44_1_7_19.ext' hR
 obtain ⟨x79_0_21, x79_1_21, s79_21, ky79_0_21, ky79_1_21⟩ := t79
 replace ky79_0_21 : OwnT DG wd19.heap.size 24 (signed (seedAt seed k) msg) x79_0_21 wd21 := ky79_0_21
 have nbo_x79_0_21_b3 := Ob1 ky79_0_21 B3_19
 have nbo_x79_0_21_b4 := Ob1 ky79_0_21 B4_19
 have nbo_x79_0_21_b5 := Ob1 ky79_0_21 B5_19
 have nbo_x79_0_21_b11 := Ob1 ky79_0_21 B11_19
 have nbo_x79_0_21_b13 := Ob1 ky79_0_21 B13_19
 have nbo_x79_0_21_b15 := Ob1 ky79_0_21 B15_19
 have no_x79_0_21_x44_0_7 := Oo ky79_0_21 O44_0_7_19
 have no_x79_0_21_x44_1_7 := Oo ky79_0_21 O44_1_7_19
 have X79_0_21_21 := ky79_0_21.sl.wide (Nat.zero_le _) (.inl rfl)
 have O79_0_21_21 := OwnT.base ky79_0_21 E19.size'
 replace ky79_1_21 : OwnT DG wd19.heap.size 24 (way (publics seed (pw h)) k) x79_1_21 wd21 := ky79_1_21
 have nbo_x79_1_21_b3 := Ob1 ky79_1_21 B3_19
 have nbo_x79_1_21_b4 := Ob1 ky79_1_21 B4_19
 have nbo_x79_1_21_b5 := Ob1 ky79_1_21 B5_19
 have nbo_x79_1_21_b11 := Ob1 ky79_1_21 B11_19
 have nbo_x79_1_21_b13 := Ob1 ky79_1_21 B13_19
 have nbo_x79_1_21_b15 := Ob1 ky79_1_21 B15_19
 have no_x79_1_21_x44_0_7 := Oo ky79_1_21 O44_0_7_19
 have no_x79_1_21_x44_1_7 := Oo ky79_1_21 O44_1_7_19
 have X79_1_21_21 := ky79_1_21.sl.wide (Nat.zero_le _) (.inl rfl)
 have O79_1_21_21 := OwnT.base ky79_1_21 E19.size'
 have s80_21 : get a21 80 = i64 ((0 : Nat) : Int) := t80
 clear E19 N19 D19 s3_19 s5_19 s7_19 s9_19 s10_19 s15_19 s72_19 B3_19 B4_19 B5_19 B11_19 B13_19 B15_19 X44_0_7_19 X44_1_7_19 O44_0_7_19 O44_1_7_19
 refine tail_put rfl rfl N21 D21 (by decide) (does_alloc zero_30 (fun b16 wd22 he lo_b16 B16_22 => fun a22 N22 D22 hv hO => ?_))
 have s16_22 := hv
 have E22 := E21.trans he
 have B3_22 := B3_21.ext' he
 have B4_22 := B4_21.ext' he
 have B5_22 := B5_21.ext' he
 have B11_22 := B11_21.ext' he
 have B13_22 := B13_21.ext' he
 have B15_22 := B15_21.ext' he
 have X44_0_7_22 := X44_0_7_21.ext' he
 have X44_1_7_22 := X44_1_7_21.ext' he
 have X79_0_21_22 := X79_0_21_21.ext' he
 have X79_1_21_22 := X79_1_21_21.ext' he
 have O44_0_7_22 := O44_0_7_21.ext' he
 have O44_1_7_22 := O44_1_7_21.ext' he
 have O79_0_21_22 := O79_0_21_21.ext' he
 have O79_1_21_22 := O79_1_21_21.ext' he
 have fr_b16 : w0.heap.size ≤ b16 := Nat.le_trans E21.size' lo_b16
 have ne_b3_b16 := Hl B3_21 lo_b16
 have ne_b4_b16 := Hl B4_21 lo_b16
 have ne_b5_b16 := Hl B5_21 lo_b16
 have ne_b11_b16 := Hl B11_21 lo_b16
 have ne_b13_b16 := Hl B13_21 lo_b16
 have ne_b15_b16 := Hl B15_21 lo_b16
 have nb_x44_0_7_b16 := SlT.old X44_0_7_21 lo_b16
 have nb_x44_1_7_b16 := SlT.old X44_1_7_21 lo_b16
 have nb_x79_0_21_b16 := SlT.old X79_0_21_21 lo_b16
 have nb_x79_1_21_b16 := SlT.old X79_1_21_21 lo_b16
 have nbo_x44_0_7_b16 := Ol O44_0_7_21 lo_b16
 have nbo_x44_1_7_b16 := Ol O44_1_7_21 lo_b16
 have nbo_x79_0_21_b16 := Ol O79_0_21_21 lo_b16
 have nbo_x79_1_21_b16 := Ol O79_1_21_21 lo_b16
 have s3_22 := oT hO s3_21 rfl
 have s7_22 := oT hO s7_21 rfl
 have s9_22 := oT hO s9_21 rfl
 have s10_22 := oT hO s10_21 rfl
 have s15_22 := oT hO s15_21 rfl
 have s79_22 := oT hO s79_21 rfl
 have s80_22 := oT hO s80_21 rfl
 clear hO hv N21 D21 E21 B3_21 B4_21 B5_21 B11_21 B13_21 B15_21 X44_0_7_21 X44_1_7_21 X79_0_21_21 X79_1_21_21 O44_0_7_21 O44_1_7_21 O79_0_21_21 O79_1_21_21 s3_21 s7_21 s9_21 s10_21 s15_21 s79_21 s80_21
 refine tail_none rfl rfl (does_storeD (o := 0) (n := 3) (cs' := [i64 (k : Int), x79_0_21, x79_1_21]) (V := Value.agg #[i64 (k : Int), x79_0_21, x79_1_21]) s16_22 s79_22 B16_22 (nB rfl) rfl siz_30 (one_cons rfl (one_cons (SlT.one X79_0_21_22) (one_cons (SlT.one X79_1_21_22) one_nil))) rfl (fun wd23 hX hz B16_23 => ?_))
 have E23 := E22.since hX (fun k e => e ▸ fr_b16)
 have B3_23 := B3_22.ext hX ne_b3_b16
 have B4_23 := B4_22.ext hX ne_b4_b16
 have B5_23 := B5_22.ext hX ne_b5_b16
 have B11_23 := B11_22.ext hX ne_b11_b16
 have B13_23 := B13_22.ext hX ne_b13_b16
 have B15_23 := B15_22.ext hX ne_b15_b16
 have X44_0_7_23 := SlT.over X44_0_7_22 hX nb_x44_0_7_b16
 have X44_1_7_23 := SlT.over X44_1_7_22 hX nb_x44_1_7_b16
 have X79_0_21_23 := SlT.over X79_0_21_22 hX nb_x79_0_21_b16
 have X79_1_21_23 := SlT.over X79_1_21_22 hX nb_x79_1_21_b16
 have O44_0_7_23 := OwnT.ext O44_0_7_22 hX (fun k hk e => nbo_x44_0_7_b16 (e ▸ hk))
 have O44_1_7_23 := OwnT.ext O44_1_7_22 hX (fun k hk e => nbo_x44_1_7_b16 (e ▸ hk))
 have O79_0_21_23 := OwnT.ext O79_0_21_22 hX (fun k hk e => nbo_x79_0_21_b16 (e ▸ hk))
 have O79_1_21_23 := OwnT.ext O79_1_21_22 hX (fun k hk e => nbo_x79_1_21_b16 (e ▸ hk))
 clear hX hz E22 B3_22 B4_22 B5_22 B11_22 B13_22 B15_22 B16_22 X44_0_7_22 X44_1_7_22 X79_0_21_22 X79_1_21_22 O44_0_7_22 O44_1_7_22 O79_0_21_22 O79_1_21_22
 refine tail_put rfl rfl N22 D22 (by decide) (does_assign (V := i64 ((0 : Nat) : Int)) s80_22 (fun a24 N24 D24 hv hO => ?_))
 have s17_24 := hv
 have s3_24 := oT hO s3_22 rfl
 have s7_24 := oT hO s7_22 rfl
 have s9_24 := oT hO s9_22 rfl
 have s10_24 := oT hO s10_22 rfl
 have s15_24 := oT hO s15_22 rfl
 have s16_24 := oT hO s16_22 rfl
 clear hO hv N22 D22 s3_22 s7_22 s9_22 s10_22 s15_22 s16_22 s79_22 s80_22
 refine tail_nil ?_
 refine wp_seq ?_
 refine Rl [] [(81, Pr.ex (Dg.val (seed))), (82, Pr.ex (i64 (h : Int))), (83, Pr.own' DG wd23.heap.size 24 (publics seed (pw h))), (18, Pr.own' DG wd23.heap.size 24 (publics seed (pw h)))] 4 N24 D24 ?_ ?_
 refine Ac ?_ (Ac ?_ (Ac ?_ (Ac ?_ (Az _))))
 exact Ap fun aq wq _ hO hR hT => does_loadD (o := 0) (n := 4) (mid := [w32 (seed).a, w32 (seed).b, w32 (seed).c, w32 (seed).d]) (oT hO s3_24 rfl) (B3_23.ext' hR) rfl rfl (nB rfl) row_24 rfl eR
 exact Am s7_24 rfl fun _ => rfl
 exact Ap fun aq wq _ hO hR hT => does_ret (vs := #[Dg.val (seed), i64 (h : Int)]) call_16 (args2 (hT 81 rfl rfl) (hT 82 rfl rfl)) rfl ((keysR seed h wq hn4).mono fun v w2 h => ⟨h.2, OwnT.base h.1 hR.size'⟩)
 exact Ap fun aq wq _ hO hR hT => does_assign rfl ⟨Ext.refl _, (hT 83 rfl rfl)⟩
 intro a25 wd25 N25 D25 hO hR hA hU
 obtain ⟨_, _, _, t18, _⟩ := hA
 have E25 := E23.trans hR
 have s9_25 := oT hO s9_24 rfl
 have s10_25 := oT hO s10_24 rfl
 have s15_25 := oT hO s15_24 rfl
 have s16_25 := oT hO s16_24 rfl
 have s17_25 := oT hO s17_24 rfl
 have B3_25 := B3_23.ext' hR
 have B4_25 := B4_23.ext' hR
 have B5_25 := B5_23.ext' hR
 have B11_25 := B11_23.ext' hR
 have B13_25 := B13_23.ext' hR
 have B15_25 := B15_23.ext' hR
 have B16_25 := B16_23.ext' hR
 have X44_0_7_25 := X44_0_7_23.ext' hR
 have X44_1_7_25 := X44_1_7_23.ext' hR
 have X79_0_21_25 := X79_0_21_23.ext' hR
 have X79_1_21_25 := X79_1_21_23.ext' hR
 have O44_0_7_25 := O44_0_7_23.ext' hR
 have O44_1_7_25 := O44_1_7_23.ext' hR
 have O79_0_21_25 := O79_0_21_23.ext' hR
 have O79_1_21_25 := O79_1_21_23.ext' hR
 obtain ⟨x18, s18_25⟩ : ∃ x, get a25 18 = x := ⟨_, rfl⟩
 replace t18 : OwnT DG wd23.heap.size 24 (publics seed (pw h)) x18 wd25 := by rw [← s18_25]; exact t18
 have nbo_x18_b3 := Ob1 t18 B3_23
 have nbo_x18_b4 := Ob1 t18 B4_23
 have nbo_x18_b5 := Ob1 t18 B5_23
 have nbo_x18_b11 := Ob1 t18 B11_23
 have nbo_x18_b13 := Ob1 t18 B13_23
 have nbo_x18_b15 := Ob1 t18 B15_23
 have nbo_x18_b16 := Ob1 t18 B16_23
 have no_x18_x44_0_7 := Oo t18 O44_0_7_23
 have no_x18_x44_1_7 := Oo t18 O44_1_7_23
 have no_x18_x79_0_21 := Oo t18 O79_0_21_23
 have no_x18_x79_1_21 := Oo t18 O79_1_21_23
 have X18_25 := t18.sl.wide (Nat.zero_le _) (.inl rfl)
 have O18_25 := OwnT.base t18 E23.size'
 clear E23 N24 D24 s3_24 s7_24 s9_24 s10_24 s15_24 s16_24 s17_24 B3_23 B4_23 B5_23 B11_23 B13_23 B15_23 B16_23 X44_0_7_23 X44_1_7_23 X79_0_21_23 X79_1_21_23 O44_0_7_23 O44_1_7_23 O79_0_21_23 O79_1_21_23
 refine tail_nil ?_
 refine wp_seq ?_
 refine Ra [] [(84, Pr.ex (i64 ((0 : Nat) : Int))), (85, Pr.ex (Value.bool (true))), (86, Pr.ex (Value.bool (true))), (87, Pr.ifb (true) (Pr.ex (x18))), (88, Pr.ifb (true) (Pr.ex (i64 (k : Int)))), (89, Pr.ifb (true) (Pr.pt' 0 0 [w32 ((Sd.lone (seedAt seed k))).a, w32 ((Sd.lone (seedAt seed k))).b, w32 ((Sd.lone (seedAt seed k))).c, w32 ((Sd.lone (seedAt seed k))).d])), (90, Pr.ifb (true) (Pr.ex (Dg.val ((Sd.lone (seedAt seed k)))))), (91, Pr.ifb (true) (Pr.ex (x18))), (92, Pr.ifb (true) (Pr.ex (i64 (j : Int)))), (93, Pr.ifb (true) (Pr.pt' 0 0 [w32 ((Sd.lone (seedAt seed j))).a, w32 ((Sd.lone (seedAt seed j))).b, w32 ((Sd.lone (seedAt seed j))).c, w32 ((Sd.lone (seedAt seed j))).d])), (94, Pr.ifb (true) (Pr.ex (Dg.val ((Sd.lone (seedAt seed j)))))), (95, Pr.ifb (true) (Pr.ex (Value.bool (decide ((Sd.lone (seedAt seed k)) = (Sd.lone (seedAt seed j))))))), (96, Pr.ifu (true) (Pr.ex (Value.bool (decide ((Sd.lone (seedAt seed k)) = (Sd.lone (seedAt seed j))))))), (97, Pr.ifb (true && (!(decide ((Sd.lone (seedAt seed k)) = (Sd.lone (seedAt seed j)))))) (Pr.ex (i64 (k : Int)))), (98, Pr.ifb (true && (!(decide ((Sd.lone (seedAt seed k)) = (Sd.lone (seedAt seed j)))))) (Pr.ex (x18))), (99, Pr.ifb (true && (!(decide ((Sd.lone (seedAt seed k)) = (Sd.lone (seedAt seed j)))))) (Pr.ex (i64 (j : Int)))), (100, Pr.ifb (true && (!(decide ((Sd.lone (seedAt seed k)) = (Sd.lone (seedAt seed j)))))) (Pr.pt' 0 0 [w32 ((Sd.lone (seedAt seed j))).a, w32 ((Sd.lone (seedAt seed j))).b, w32 ((Sd.lone (seedAt seed j))).c, w32 ((Sd.lone (seedAt seed j))).d])), (101, Pr.ifb (true && (!(decide ((Sd.lone (seedAt seed k)) = (Sd.lone (seedAt seed j)))))) (Pr.ex (Dg.val ((Sd.lone (seedAt seed j)))))), (102, Pr.ifb (true && (!(decide ((Sd.lone (seedAt seed k)) = (Sd.lone (seedAt seed j)))))) (Pr.ex (Value.pointer (some ⟨b15, 2, none⟩)))), (103, Pr.ifb (true && (!(decide ((Sd.lone (seedAt seed k)) = (Sd.lone (seedAt seed j)))))) (Pr.ex (x44_1_7))), (104, Pr.ifb (true && (!(decide ((Sd.lone (seedAt seed k)) = (Sd.lone (seedAt seed j)))))) (Pr.ex (x18))), (105, Pr.ifb (true && (!(decide ((Sd.lone (seedAt seed k)) = (Sd.lone (seedAt seed j)))))) (Pr.ex (i64 (k : Int)))), (106, Pr.ifb (true && (!(decide ((Sd.lone (seedAt seed k)) = (Sd.lone (seedAt seed j)))))) (Pr.pt' 0 0 [w32 ((Sd.lone (seedAt seed k))).a, w32 ((Sd.lone (seedAt seed k))).b, w32 ((Sd.lone (seedAt seed k))).c, w32 ((Sd.lone (seedAt seed k))).d])), (107, Pr.ifb (true && (!(decide ((Sd.lone (seedAt seed k)) = (Sd.lone (seedAt seed j)))))) (Pr.ex (Dg.val ((Sd.lone (seedAt seed k)))))), (108, Pr.ifb (true && (!(decide ((Sd.lone (seedAt seed k)) = (Sd.lone (seedAt seed j)))))) (Pr.ex (Value.pointer (some ⟨b16, 2, none⟩)))), (109, Pr.ifb (true && (!(decide ((Sd.lone (seedAt seed k)) = (Sd.lone (seedAt seed j)))))) (Pr.ex (x79_1_21))), (110, Pr.ifb (true && (!(decide ((Sd.lone (seedAt seed k)) = (Sd.lone (seedAt seed j)))))) (Pr.ex (Value.bool (clashK k ((Sd.lone (seedAt seed j))) (way (publics seed (pw h)) j) ((Sd.lone (seedAt seed k))) (way (publics seed (pw h)) k))))), (111, Pr.ifb (true) (Pr.ex (Value.bool ((decide ((Sd.lone (seedAt seed k)) = (Sd.lone (seedAt seed j)))) || (clashK k ((Sd.lone (seedAt seed j))) (way (publics seed (pw h)) j) ((Sd.lone (seedAt seed k))) (way (publics seed (pw h)) k)))))), (112, Pr.ex (Value.bool (true && ((decide ((Sd.lone (seedAt seed k)) = (Sd.lone (seedAt seed j)))) || (clashK k ((Sd.lone (seedAt seed j))) (way (publics seed (pw h)) j) ((Sd.lone (seedAt seed k))) (way (publics seed (pw h)) k)))))), (6, Pr.ex (Value.bool (true && ((decide ((Sd.lone (seedAt seed k)) = (Sd.lone (seedAt seed j)))) || (clashK k ((Sd.lone (seedAt seed j))) (way (publics seed (pw h)) j) ((Sd.lone (seedAt seed k))) (way (publics seed (pw h)) k))))))] 30 mixed N25 D25 ?_ ?_
 refine Ac ?_ (Ac ?_ (Ac ?_ (Ac ?_ (Ac ?_ (Ac ?_ (Ac ?_ (Ac ?_ (Ac ?_ (Ac ?_ (Ac ?_ (Ac ?_ (Ac ?_ (Ac ?_ (Ac ?_ (Ac ?_ (Ac ?_ (Ac ?_ (Ac ?_ (Ac ?_ (Ac ?_ (Ac ?_ (Ac ?_ (Ac ?_ (Ac ?_ (Ac ?_ (Ac ?_ (Ac ?_ (Ac ?_ (Ac ?_ (Az _))))))))))))))))))))))))))))))
 exact Am s17_25 rfl fun _ => rfl
 exact Ad fun aq wq _ hO hR hT => does_eql (a := ((0 : Nat) : Int)) (b := ((0 : Nat) : Int)) (hT 84 rfl rfl) rfl eR
 exact Ad fun aq wq _ hO hR hT => does_move (V := Value.bool (true)) (hT 85 rfl rfl) eR
 refine Ask.guarded (B := true) (want := true) (t := 86) rfl rfl rfl rfl (by decide) (fun aq wq hO hR hT => hT 86 rfl rfl) (fun hG aq wq hNq hO hR hT => ?_) (fun hno _ => fun hc => absurd hc hno)
 replace hR := (Ext.drew _).trans hR
 exact does_move (V := x18) (oT hO s18_25 rfl) ⟨Ext.refl _, fun _ => rfl⟩
 refine Ask.guarded (B := true) (want := true) (t := 86) rfl rfl rfl rfl (by decide) (fun aq wq hO hR hT => hT 86 rfl rfl) (fun hG aq wq hNq hO hR hT => ?_) (fun hno _ => fun hc => absurd hc hno)
 replace hR := (Ext.drew _).trans hR
 exact does_move (V := i64 (k : Int)) (oT hO s10_25 rfl) ⟨Ext.refl _, fun _ => rfl⟩
 refine Ask.guarded (B := true) (want := true) (t := 86) rfl rfl rfl rfl (by decide) (fun aq wq hO hR hT => hT 86 rfl rfl) (fun hG aq wq hNq hO hR hT => ?_) (fun hno _ => fun hc => absurd hc hno)
 replace hR := (Ext.drew _).trans hR
 exact does_indexSl (T := DG) (xs := publics seed (pw h)) (i := (k : Int)) (X := (Sd.lone (seedAt seed k))) sli_27 rfl (SlT.at (hT 87 rfl rfl hG) (X18_25.ext' hR)) (hT 88 rfl rfl hG) (by omega) (publics_get hk) (fun v h => ⟨Ext.refl _, fun _ => h⟩)
 refine Ask.guarded (B := true) (want := true) (t := 86) rfl rfl rfl rfl (by decide) (fun aq wq hO hR hT => hT 86 rfl rfl) (fun hG aq wq hNq hO hR hT => ?_) (fun hno _ => fun hc => absurd hc hno)
 replace hR := (Ext.drew _).trans hR
 exact does_loadP (cs := [w32 ((Sd.lone (seedAt seed k))).a, w32 ((Sd.lone (seedAt seed k))).b, w32 ((Sd.lone (seedAt seed k))).c, w32 ((Sd.lone (seedAt seed k))).d]) (hT 89 rfl rfl hG) row_24 rfl ⟨Ext.refl _, fun _ => rfl⟩
 refine Ask.guarded (B := true) (want := true) (t := 86) rfl rfl rfl rfl (by decide) (fun aq wq hO hR hT => hT 86 rfl rfl) (fun hG aq wq hNq hO hR hT => ?_) (fun hno _ => fun hc => absurd hc hno)
 replace hR := (Ext.drew _).trans hR
 exact does_move (V := x18) (oT hO s18_25 rfl) ⟨Ext.refl _, fun _ => rfl⟩
 refine Ask.guarded (B := true) (want := true) (t := 86) rfl rfl rfl rfl (by decide) (fun aq wq hO hR hT => hT 86 rfl rfl) (fun hG aq wq hNq hO hR hT => ?_) (fun hno _ => fun hc => absurd hc hno)
 replace hR := (Ext.drew _).trans hR
 exact does_move (V := i64 (j : Int)) (oT hO s9_25 rfl) ⟨Ext.refl _, fun _ => rfl⟩
 refine Ask.guarded (B := true) (want := true) (t := 86) rfl rfl rfl rfl (by decide) (fun aq wq hO hR hT => hT 86 rfl rfl) (fun hG aq wq hNq hO hR hT => ?_) (fun hno _ => fun hc => absurd hc hno)
 replace hR := (Ext.drew _).trans hR
 exact does_indexSl (T := DG) (xs := publics seed (pw h)) (i := (j : Int)) (X := (Sd.lone (seedAt seed j))) sli_27 rfl (SlT.at (hT 91 rfl rfl hG) (X18_25.ext' hR)) (hT 92 rfl rfl hG) (by omega) (publics_get hj) (fun v h => ⟨Ext.refl _, fun _ => h⟩)
 refine Ask.guarded (B := true) (want := true) (t := 86) rfl rfl rfl rfl (by decide) (fun aq wq hO hR hT => hT 86 rfl rfl) (fun hG aq wq hNq hO hR hT => ?_) (fun hno _ => fun hc => absurd hc hno)
 replace hR := (Ext.drew _).trans hR
 exact does_loadP (cs := [w32 ((Sd.lone (seedAt seed j))).a, w32 ((Sd.lone (seedAt seed j))).b, w32 ((Sd.lone (seedAt seed j))).c, w32 ((Sd.lone (seedAt seed j))).d]) (hT 93 rfl rfl hG) row_24 rfl ⟨Ext.refl _, fun _ => rfl⟩
 refine Ask.guarded (B := true) (want := true) (t := 86) rfl rfl rfl rfl (by decide) (fun aq wq hO hR hT => hT 86 rfl rfl) (fun hG aq wq hNq hO hR hT => ?_) (fun hno _ => fun hc => absurd hc hno)
 replace hR := (Ext.drew _).trans hR
 exact does_eqT (a := (Sd.lone (seedAt seed k))) (b := (Sd.lone (seedAt seed j))) eq_24 (hT 90 rfl rfl hG) (hT 94 rfl rfl hG) ⟨Ext.refl _, fun _ => rfl⟩
 refine Ask.guarded (B := true) (want := true) (t := 86) rfl rfl rfl rfl (by decide) (fun aq wq hO hR hT => hT 86 rfl rfl) (fun hG aq wq hNq hO hR hT => ?_) (fun hno _ => ⟨fun hc => absurd hc hno, fun _ => rfl⟩)
 replace hR := (Ext.drew _).trans hR
 exact does_move (V := Value.bool (decide ((Sd.lone (seedAt seed k)) = (Sd.lone (seedAt seed j))))) (hT 95 rfl rfl hG) ⟨Ext.refl _, fun _ => rfl, fun hc => (by rw [hG] at hc; cases hc)⟩
 refine Ask.guarded2 (C := true) (B := decide ((Sd.lone (seedAt seed k)) = (Sd.lone (seedAt seed j)))) (want := false) (t := 96) rfl rfl rfl rfl (by decide) (fun aq wq hO hR hT => hT 96 rfl rfl) (fun hC hG aq wq hNq hO hR hT => ?_) (fun hno _ => fun hc => absurd ⟨andl hc, bn (andr hc)⟩ hno)
 replace hG := andi hC (nb hG)
 replace hR := (Ext.drew _).trans hR
 exact does_move (V := i64 (k : Int)) (oT hO s10_25 rfl) ⟨Ext.refl _, fun _ => rfl⟩
 refine Ask.guarded2 (C := true) (B := decide ((Sd.lone (seedAt seed k)) = (Sd.lone (seedAt seed j)))) (want := false) (t := 96) rfl rfl rfl rfl (by decide) (fun aq wq hO hR hT => hT 96 rfl rfl) (fun hC hG aq wq hNq hO hR hT => ?_) (fun hno _ => fun hc => absurd ⟨andl hc, bn (andr hc)⟩ hno)
 replace hG := andi hC (nb hG)
 replace hR := (Ext.drew _).trans hR
 exact does_move (V := x18) (oT hO s18_25 rfl) ⟨Ext.refl _, fun _ => rfl⟩
 refine Ask.guarded2 (C := true) (B := decide ((Sd.lone (seedAt seed k)) = (Sd.lone (seedAt seed j)))) (want := false) (t := 96) rfl rfl rfl rfl (by decide) (fun aq wq hO hR hT => hT 96 rfl rfl) (fun hC hG aq wq hNq hO hR hT => ?_) (fun hno _ => fun hc => absurd ⟨andl hc, bn (andr hc)⟩ hno)
 replace hG := andi hC (nb hG)
 replace hR := (Ext.drew _).trans hR
 exact does_move (V := i64 (j : Int)) (oT hO s9_25 rfl) ⟨Ext.refl _, fun _ => rfl⟩
 refine Ask.guarded2 (C := true) (B := decide ((Sd.lone (seedAt seed k)) = (Sd.lone (seedAt seed j)))) (want := false) (t := 96) rfl rfl rfl rfl (by decide) (fun aq wq hO hR hT => hT 96 rfl rfl) (fun hC hG aq wq hNq hO hR hT => ?_) (fun hno _ => fun hc => absurd ⟨andl hc, bn (andr hc)⟩ hno)
 replace hG := andi hC (nb hG)
 replace hR := (Ext.drew _).trans hR
 exact does_indexSl (T := DG) (xs := publics seed (pw h)) (i := (j : Int)) (X := (Sd.lone (seedAt seed j))) sli_27 rfl (SlT.at (hT 98 rfl rfl hG) (X18_25.ext' hR)) (hT 99 rfl rfl hG) (by omega) (publics_get hj) (fun v h => ⟨Ext.refl _, fun _ => h⟩)
 refine Ask.guarded2 (C := true) (B := decide ((Sd.lone (seedAt seed k)) = (Sd.lone (seedAt seed j)))) (want := false) (t := 96) rfl rfl rfl rfl (by decide) (fun aq wq hO hR hT => hT 96 rfl rfl) (fun hC hG aq wq hNq hO hR hT => ?_) (fun hno _ => fun hc => absurd ⟨andl hc, bn (andr hc)⟩ hno)
 replace hG := andi hC (nb hG)
 replace hR := (Ext.drew _).trans hR
 exact does_loadP (cs := [w32 ((Sd.lone (seedAt seed j))).a, w32 ((Sd.lone (seedAt seed j))).b, w32 ((Sd.lone (seedAt seed j))).c, w32 ((Sd.lone (seedAt seed j))).d]) (hT 100 rfl rfl hG) row_24 rfl ⟨Ext.refl _, fun _ => rfl⟩
 refine Ask.guarded2 (C := true) (B := decide ((Sd.lone (seedAt seed k)) = (Sd.lone (seedAt seed j)))) (want := false) (t := 96) rfl rfl rfl rfl (by decide) (fun aq wq hO hR hT => hT 96 rfl rfl) (fun hC hG aq wq hNq hO hR hT => ?_) (fun hno _ => fun hc => absurd ⟨andl hc, bn (andr hc)⟩ hno)
 replace hG := andi hC (nb hG)
 replace hR := (Ext.drew _).trans hR
 exact does_field (o' := 2) fld_30_2 (oT hO s15_25 rfl) rfl ⟨Ext.refl _, fun _ => rfl⟩
 refine Ask.guarded2 (C := true) (B := decide ((Sd.lone (seedAt seed k)) = (Sd.lone (seedAt seed j)))) (want := false) (t := 96) rfl rfl rfl rfl (by decide) (fun aq wq hO hR hT => hT 96 rfl rfl) (fun hC hG aq wq hNq hO hR hT => ?_) (fun hno _ => fun hc => absurd ⟨andl hc, bn (andr hc)⟩ hno)
 replace hG := andi hC (nb hG)
 replace hR := (Ext.drew _).trans hR
 exact does_loadD1 (o := 2) (V := x44_1_7) (hT 102 rfl rfl hG) (B15_25.ext' hR) rfl one_27 ⟨Ext.refl _, fun _ => rfl⟩
 refine Ask.guarded2 (C := true) (B := decide ((Sd.lone (seedAt seed k)) = (Sd.lone (seedAt seed j)))) (want := false) (t := 96) rfl rfl rfl rfl (by decide) (fun aq wq hO hR hT => hT 96 rfl rfl) (fun hC hG aq wq hNq hO hR hT => ?_) (fun hno _ => fun hc => absurd ⟨andl hc, bn (andr hc)⟩ hno)
 replace hG := andi hC (nb hG)
 replace hR := (Ext.drew _).trans hR
 exact does_move (V := x18) (oT hO s18_25 rfl) ⟨Ext.refl _, fun _ => rfl⟩
 refine Ask.guarded2 (C := true) (B := decide ((Sd.lone (seedAt seed k)) = (Sd.lone (seedAt seed j)))) (want := false) (t := 96) rfl rfl rfl rfl (by decide) (fun aq wq hO hR hT => hT 96 rfl rfl) (fun hC hG aq wq hNq hO hR hT => ?_) (fun hno _ => fun hc => absurd ⟨andl hc, bn (andr hc)⟩ hno)
 replace hG := andi hC (nb hG)
 replace hR := (Ext.drew _).trans hR
 exact does_move (V := i64 (k : Int)) (oT hO s10_25 rfl) ⟨Ext.refl _, fun _ => rfl⟩
 refine Ask.guarded2 (C := true) (B := decide ((Sd.lone (seedAt seed k)) = (Sd.lone (seedAt seed j)))) (want := false) (t := 96) rfl rfl rfl rfl (by decide) (fun aq wq hO hR hT => hT 96 rfl rfl) (fun hC hG aq wq hNq hO hR hT => ?_) (fun hno _ => fun hc => absurd ⟨andl hc, bn (andr hc)⟩ hno)
 replace hG := andi hC (nb hG)
 replace hR := (Ext.drew _).trans hR
 exact does_indexSl (T := DG) (xs := publics seed (pw h)) (i := (k : Int)) (X := (Sd.lone (seedAt seed k))) sli_27 rfl (SlT.at (hT 104 rfl rfl hG) (X18_25.ext' hR)) (hT 105 rfl rfl hG) (by omega) (publics_get hk) (fun v h => ⟨Ext.refl _, fun _ => h⟩)
 refine Ask.guarded2 (C := true) (B := decide ((Sd.lone (seedAt seed k)) = (Sd.lone (seedAt seed j)))) (want := false) (t := 96) rfl rfl rfl rfl (by decide) (fun aq wq hO hR hT => hT 96 rfl rfl) (fun hC hG aq wq hNq hO hR hT => ?_) (fun hno _ => fun hc => absurd ⟨andl hc, bn (andr hc)⟩ hno)
 replace hG := andi hC (nb hG)
 replace hR := (Ext.drew _).trans hR
 exact does_loadP (cs := [w32 ((Sd.lone (seedAt seed k))).a, w32 ((Sd.lone (seedAt seed k))).b, w32 ((Sd.lone (seedAt seed k))).c, w32 ((Sd.lone (seedAt seed k))).d]) (hT 106 rfl rfl hG) row_24 rfl ⟨Ext.refl _, fun _ => rfl⟩
 refine Ask.guarded2 (C := true) (B := decide ((Sd.lone (seedAt seed k)) = (Sd.lone (seedAt seed j)))) (want := false) (t := 96) rfl rfl rfl rfl (by decide) (fun aq wq hO hR hT => hT 96 rfl rfl) (fun hC hG aq wq hNq hO hR hT => ?_) (fun hno _ => fun hc => absurd ⟨andl hc, bn (andr hc)⟩ hno)
 replace hG := andi hC (nb hG)
 replace hR := (Ext.drew _).trans hR
 exact does_field (o' := 2) fld_30_2 (oT hO s16_25 rfl) rfl ⟨Ext.refl _, fun _ => rfl⟩
 refine Ask.guarded2 (C := true) (B := decide ((Sd.lone (seedAt seed k)) = (Sd.lone (seedAt seed j)))) (want := false) (t := 96) rfl rfl rfl rfl (by decide) (fun aq wq hO hR hT => hT 96 rfl rfl) (fun hC hG aq wq hNq hO hR hT => ?_) (fun hno _ => fun hc => absurd ⟨andl hc, bn (andr hc)⟩ hno)
 replace hG := andi hC (nb hG)
 replace hR := (Ext.drew _).trans hR
 exact does_loadD1 (o := 2) (V := x79_1_21) (hT 108 rfl rfl hG) (B16_25.ext' hR) rfl one_27 ⟨Ext.refl _, fun _ => rfl⟩
 refine Ask.guarded2 (C := true) (B := decide ((Sd.lone (seedAt seed k)) = (Sd.lone (seedAt seed j)))) (want := false) (t := 96) rfl rfl rfl rfl (by decide) (fun aq wq hO hR hT => hT 96 rfl rfl) (fun hC hG aq wq hNq hO hR hT => ?_) (fun hno _ => fun hc => absurd ⟨andl hc, bn (andr hc)⟩ hno)
 replace hG := andi hC (nb hG)
 replace hR := (Ext.drew _).trans hR
 exact does_ret (vs := #[i64 (k : Int), Dg.val ((Sd.lone (seedAt seed j))), x44_1_7, Dg.val ((Sd.lone (seedAt seed k))), x79_1_21]) call_15 (args5 (hT 97 rfl rfl hG) (hT 101 rfl rfl hG) (hT 103 rfl rfl hG) (hT 107 rfl rfl hG) (hT 109 rfl rfl hG)) rfl ((clash06 k ((Sd.lone (seedAt seed j))) (way (publics seed (pw h)) j) ((Sd.lone (seedAt seed k))) (way (publics seed (pw h)) k) (x44_1_7) (x79_1_21) wq ((X44_1_7_25.ext' hR).wide (Nat.zero_le _) (.inl rfl)) ((X79_1_21_25.ext' hR).wide (Nat.zero_le _) (.inl rfl)) (by rw [way_pw h _ _ (publics_length _ _) (by rw [publics_length]; exact hj)]; omega) (by omega)).mono fun v w2 h => ⟨h.2, fun _ => h.1⟩)
 refine Ask.guarded (B := true) (want := true) (t := 86) rfl rfl rfl rfl (by decide) (fun aq wq hO hR hT => hT 86 rfl rfl) (fun hG aq wq hNq hO hR hT => ?_) (fun hno _ => fun hc => absurd hc hno)
 replace hR := (Ext.drew _).trans hR
 exact does_or (B := decide ((Sd.lone (seedAt seed k)) = (Sd.lone (seedAt seed j)))) (X := clashK k ((Sd.lone (seedAt seed j))) (way (publics seed (pw h)) j) ((Sd.lone (seedAt seed k))) (way (publics seed (pw h)) k)) (And.left (hT 96 rfl rfl) hG) rfl (fun hB => (hT 110 rfl rfl (andi hG (nb hB)))) ⟨Ext.refl _, fun _ => rfl⟩
 exact Ad fun aq wq _ hO hR hT => does_and (B := true) (X := (decide ((Sd.lone (seedAt seed k)) = (Sd.lone (seedAt seed j)))) || (clashK k ((Sd.lone (seedAt seed j))) (way (publics seed (pw h)) j) ((Sd.lone (seedAt seed k))) (way (publics seed (pw h)) k))) (hT 86 rfl rfl) (fun hB => (hT 111 rfl rfl hB)) rfl eR
 exact Ad fun aq wq _ hO hR hT => does_assign (V := Value.bool (true && ((decide ((Sd.lone (seedAt seed k)) = (Sd.lone (seedAt seed j)))) || (clashK k ((Sd.lone (seedAt seed j))) (way (publics seed (pw h)) j) ((Sd.lone (seedAt seed k))) (way (publics seed (pw h)) k))))) (hT 112 rfl rfl) eR
 intro a26 wd26 N26 D26 hO hR hA hU
 obtain ⟨_, _, _, _, _, _, _, _, _, _, _, _, _, _, _, _, _, _, _, _, _, _, _, _, _, _, _, _, _, t6, _⟩ := hA
 have E26 := E25.trans hR
 have B3_26 := B3_25.ext' hR
 have B4_26 := B4_25.ext' hR
 have B5_26 := B5_25.ext' hR
 have B11_26 := B11_25.ext' hR
 have B13_26 := B13_25.ext' hR
 have B15_26 := B15_25.ext' hR
 have B16_26 := B16_25.ext' hR
 have X44_0_7_26 := X44_0_7_25.ext' hR
 have X44_1_7_26 := X44_1_7_25.ext' hR
 have X79_0_21_26 := X79_0_21_25.ext' hR
 have X79_1_21_26 := X79_1_21_25.ext' hR
 have X18_26 := X18_25.ext' hR
 have O44_0_7_26 := O44_0_7_25.ext' hR
 have O44_1_7_26 := O44_1_7_25.ext' hR
 have O79_0_21_26 := O79_0_21_25.ext' hR
 have O79_1_21_26 := O79_1_21_25.ext' hR
 have O18_26 := O18_25.ext' hR
 have s6_26 : get a26 6 = Value.bool (true && ((decide ((Sd.lone (seedAt seed k)) = (Sd.lone (seedAt seed j)))) || (clashK k ((Sd.lone (seedAt seed j))) (way (publics seed (pw h)) j) ((Sd.lone (seedAt seed k))) (way (publics seed (pw h)) k)))) := t6
 clear E25 N25 D25 s9_25 s10_25 s15_25 s16_25 s17_25 s18_25 B3_25 B4_25 B5_25 B11_25 B13_25 B15_25 B16_25 X44_0_7_25 X44_1_7_25 X79_0_21_25 X79_1_21_25 X18_25 O44_0_7_25 O44_1_7_25 O79_0_21_25 O79_1_21_25 O18_25
 refine tail_nil ?_
 refine wp_ret ?_
 refine res_one (V := Value.bool (true && ((decide ((Sd.lone (seedAt seed k)) = (Sd.lone (seedAt seed j)))) || (clashK k ((Sd.lone (seedAt seed j))) (way (publics seed (pw h)) j) ((Sd.lone (seedAt seed k))) (way (publics seed (pw h)) k))))) rfl D26 s6_26 ?_
 exact ⟨congrArg Value.bool (by have hl := keysPlaces_law hn4 hj hk hkc; simpa using hl), E26⟩

end Go.Proofs.YtaeohnkfmachfaaDoor
