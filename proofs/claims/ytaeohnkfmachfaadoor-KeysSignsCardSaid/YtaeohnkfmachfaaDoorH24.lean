/- The walks of functions of the program: printed. -/
import Derived.Test.YtaeohnkfmachfaaDoorKB
import Derived.Test.YtaeohnkfmachfaaDoorG70
import Derived.Test.YtaeohnkfmachfaaDoorG94
import Derived.Test.YtaeohnkfmachfaaDoorG95
import Derived.Test.YtaeohnkfmachfaaDoorG102
import Derived.Test.YtaeohnkfmachfaaDoorG104
import Derived.Test.YtaeohnkfmachfaaDoorG107
import Derived.Test.YtaeohnkfmachfaaDoorF0
set_option maxRecDepth 100000
namespace Go.Proofs.YtaeohnkfmachfaaDoor
open Go Go.RowKit Sk Sd
theorem call_7 : Callable Tryd.prog 7 := ⟨_, Tryd.func7, by kernel_rfl, rfl⟩
theorem arr_25 : ArrIs Tryd.prog 25 2 3 1 := ⟨Tryd.underlying25, by kernel_rfl⟩
theorem call_9 : Callable Tryd.prog 9 := ⟨_, Tryd.func9, by kernel_rfl, rfl⟩
theorem call_10 : Callable Tryd.prog 10 := ⟨_, Tryd.func10, by kernel_rfl, rfl⟩
theorem keysSigns (seed : Dg) (h i : Int) (msg : Dg) (w0 : World) (hL : Laid w0) :
    Gives Tryd.prog 3 #[Dg.val (seed), Value.agg #[i64 (h), i64 (i)], Dg.val (msg)] w0 (Pr.ex (Value.bool true)) := by
 refine enter (N := 69) Tryd.func3 rfl rfl ?_
 intro a0 N0 D0 hA
 have s0_0 : get a0 0 = Dg.val (seed) := hA 0 _ rfl
 have s1_0 : get a0 1 = Value.agg #[i64 (h), i64 (i)] := hA 1 _ rfl
 have s2_0 : get a0 2 = Dg.val (msg) := hA 2 _ rfl
 clear hA
 have E0 : Ext w0 w0 := Ext.refl w0
 refine wp_seq ?_
 refine Rl [3, 4, 5] [(3, Pr.box' w0.heap.size 24 [w32 (seed).a, w32 (seed).b, w32 (seed).c, w32 (seed).d]), (4, Pr.box' w0.heap.size 25 [i64 (h), i64 (i)]), (5, Pr.box' w0.heap.size 24 [w32 (msg).a, w32 (msg).b, w32 (msg).c, w32 (msg).d]), (6, Pr.ex (Value.bool (false)))] 4 N0 D0 ?_ ?_
 refine Ac ?_ (Ac ?_ (Ac ?_ (Ac ?_ (Az _))))
 refine Ask.fresh rfl rfl ?_
 intro aq wq hNq hO hR hT
 exact does_box (V := Dg.val (seed)) (oT hO s0_0 rfl) (fun b w2 he hlo hb => ⟨he, ⟨b, rfl, Nat.le_trans hR.size' hlo, hb⟩, ⟨b, rfl, hlo, hb.lt⟩⟩)
 refine Ask.fresh rfl rfl ?_
 intro aq wq hNq hO hR hT
 exact does_box (V := Value.agg #[i64 (h), i64 (i)]) (oT hO s1_0 rfl) (fun b w2 he hlo hb => ⟨he, ⟨b, rfl, Nat.le_trans hR.size' hlo, hb⟩, ⟨b, rfl, hlo, hb.lt⟩⟩)
 refine Ask.fresh rfl rfl ?_
 intro aq wq hNq hO hR hT
 exact does_box (V := Dg.val (msg)) (oT hO s2_0 rfl) (fun b w2 he hlo hb => ⟨he, ⟨b, rfl, Nat.le_trans hR.size' hlo, hb⟩, ⟨b, rfl, hlo, hb.lt⟩⟩)
 exact Ap fun aq wq _ hO hR hT => does_assign (V := Value.bool (false)) rfl eR
 intro a1 wd1 N1 D1 hO hR hA hU
 obtain ⟨t3, t4, t5, _, _⟩ := hA
 have E1 := E0.trans hR
 obtain ⟨b3, s3_1, lo_b3, B3_1⟩ := t3
 have fr_b3 : w0.heap.size ≤ b3 := Nat.le_trans E0.size' lo_b3
 obtain ⟨b4, s4_1, lo_b4, B4_1⟩ := t4
 have fr_b4 : w0.heap.size ≤ b4 := Nat.le_trans E0.size' lo_b4
 obtain ⟨b5, s5_1, lo_b5, B5_1⟩ := t5
 have fr_b5 : w0.heap.size ≤ b5 := Nat.le_trans E0.size' lo_b5
 obtain ⟨u0, ⟨u1, ⟨u2, _⟩⟩⟩ := hU
 have ne_b3_b4 : b3 ≠ b4 := fun e => u0 4 (by decide) (by rw [s3_1, s4_1, e])
 have ne_b3_b5 : b3 ≠ b5 := fun e => u0 5 (by decide) (by rw [s3_1, s5_1, e])
 have ne_b4_b5 : b4 ≠ b5 := fun e => u1 5 (by decide) (by rw [s4_1, s5_1, e])
 clear E0 N0 D0 s0_0 s1_0 s2_0
 refine tail_nil ?_
 refine wp_seq ?_
 refine wp_seq ?_
 refine Rl [] [(13, Pr.ex (Value.bool (true))), (14, Pr.ex (Value.bool (false)))] 2 N1 D1 ?_ ?_
 refine Ac ?_ (Ac ?_ (Az _))
 exact Ap fun aq wq _ hO hR hT => does_ret (vs := #[]) call_7 args0 rfl ((awake06 wq (hL.ext (E1.trans hR))).mono fun v w2 h => ⟨h.2, h.1⟩)
 exact Ap fun aq wq _ hO hR hT => does_not (B := true) (hT 13 rfl rfl) eR
 intro a2 wd2 N2 D2 hO hR hA hU
 obtain ⟨_, t14, _⟩ := hA
 have E2 := E1.trans hR
 have s3_2 := oT hO s3_1 rfl
 have s4_2 := oT hO s4_1 rfl
 have s5_2 := oT hO s5_1 rfl
 have B3_2 := B3_1.ext' hR
 have B4_2 := B4_1.ext' hR
 have B5_2 := B5_1.ext' hR
 have s14_2 : get a2 14 = Value.bool (false) := t14
 clear E1 N1 D1 s3_1 s4_1 s5_1 B3_1 B4_1 B5_1
 refine tail_nil ?_
 refine wp_ifF s14_2 ?_
 refine wp_skip ?_
 refine wp_seq ?_
 refine wp_seq ?_
 refine Rl [] [(15, Pr.ex (Value.pointer (some ⟨b4, 0, none⟩))), (16, Pr.ex (i64 (h))), (17, Pr.ex (Value.bool (decide (h = ((3 : Nat) : Int))))), (18, Pr.ex (Value.bool (decide (h = ((3 : Nat) : Int))))), (19, Pr.ifb (!(decide (h = ((3 : Nat) : Int)))) (Pr.ex (Value.pointer (some ⟨b4, 0, none⟩)))), (20, Pr.ifb (!(decide (h = ((3 : Nat) : Int)))) (Pr.ex (i64 (h)))), (21, Pr.ifb (!(decide (h = ((3 : Nat) : Int)))) (Pr.ex (Value.bool (decide (h = ((4 : Nat) : Int)))))), (22, Pr.ex (Value.bool ((decide (h = ((3 : Nat) : Int))) || (decide (h = ((4 : Nat) : Int))))))] 8 N2 D2 ?_ ?_
 refine Ac ?_ (Ac ?_ (Ac ?_ (Ac ?_ (Ac ?_ (Ac ?_ (Ac ?_ (Ac ?_ (Az _))))))))
 exact Ap fun aq wq _ hO hR hT => does_indexArr (k := .i64) (i := 0) (o' := 0) arr_25 (oT hO s4_2 rfl) rfl (by decide) (by decide) rfl eR
 exact Ap fun aq wq _ hO hR hT => does_loadD1 (o := 0) (V := i64 (h)) (hT 15 rfl rfl) (B4_2.ext' hR) rfl one_3 eR
 exact Ap fun aq wq _ hO hR hT => does_eql (a := h) (b := ((3 : Nat) : Int)) (hT 16 rfl rfl) rfl eR
 exact Ap fun aq wq _ hO hR hT => does_move (V := Value.bool (decide (h = ((3 : Nat) : Int)))) (hT 17 rfl rfl) eR
 refine Ask.guarded (B := decide (h = ((3 : Nat) : Int))) (want := false) (t := 18) rfl rfl rfl rfl (by decide) (fun aq wq hO hR hT => hT 18 rfl rfl) (fun hG aq wq hNq hO hR hT => ?_) (fun hno _ => fun hc => absurd (bn hc) hno)
 replace hG := nb hG
 exact does_indexArr (k := .i64) (i := 0) (o' := 0) arr_25 (oT hO s4_2 rfl) rfl (by decide) (by decide) rfl ⟨Ext.refl _, fun _ => rfl⟩
 refine Ask.guarded (B := decide (h = ((3 : Nat) : Int))) (want := false) (t := 18) rfl rfl rfl rfl (by decide) (fun aq wq hO hR hT => hT 18 rfl rfl) (fun hG aq wq hNq hO hR hT => ?_) (fun hno _ => fun hc => absurd (bn hc) hno)
 replace hG := nb hG
 exact does_loadD1 (o := 0) (V := i64 (h)) (hT 19 rfl rfl hG) (B4_2.ext' hR) rfl one_3 ⟨Ext.refl _, fun _ => rfl⟩
 refine Ask.guarded (B := decide (h = ((3 : Nat) : Int))) (want := false) (t := 18) rfl rfl rfl rfl (by decide) (fun aq wq hO hR hT => hT 18 rfl rfl) (fun hG aq wq hNq hO hR hT => ?_) (fun hno _ => fun hc => absurd (bn hc) hno)
 replace hG := nb hG
 exact does_eql (a := h) (b := ((4 : Nat) : Int)) (hT 20 rfl rfl hG) rfl ⟨Ext.refl _, fun _ => rfl⟩
 exact Ap fun aq wq _ hO hR hT => does_or (B := decide (h = ((3 : Nat) : Int))) (X := decide (h = ((4 : Nat) : Int))) (hT 18 rfl rfl) rfl (fun hB => (hT 21 rfl rfl (nb hB))) eR
 intro a3 wd3 N3 D3 hO hR hA hU
 obtain ⟨_, _, _, _, _, _, _, t22, _⟩ := hA
 have E3 := E2.trans hR
 have s3_3 := oT hO s3_2 rfl
 have s4_3 := oT hO s4_2 rfl
 have s5_3 := oT hO s5_2 rfl
 have B3_3 := B3_2.ext' hR
 have B4_3 := B4_2.ext' hR
 have B5_3 := B5_2.ext' hR
 have s22_3 : get a3 22 = Value.bool ((decide (h = ((3 : Nat) : Int))) || (decide (h = ((4 : Nat) : Int)))) := t22
 clear E2 N2 D2 s3_2 s4_2 s5_2 s14_2 B3_2 B4_2 B5_2
 refine tail_nil ?_
 refine wp_if (B := (decide (h = ((3 : Nat) : Int))) || (decide (h = ((4 : Nat) : Int)))) s22_3 (fun hc0 => ?_) (fun hc0 => ?_)
 refine wp_seq ?_
 refine Rl [] [(6, Pr.ex (Value.bool (true)))] 1 N3 D3 ?_ ?_
 refine Ac ?_ (Az _)
 exact Ap fun aq wq _ hO hR hT => does_assign (V := Value.bool (true)) rfl eR
 intro a4 wd4 N4 D4 hO hR hA hU
 obtain ⟨t6, _⟩ := hA
 have E4 := E3.trans hR
 have B3_4 := B3_3.ext' hR
 have B4_4 := B4_3.ext' hR
 have B5_4 := B5_3.ext' hR
 have s6_4 : get a4 6 = Value.bool (true) := t6
 clear E3 N3 D3 s3_3 s4_3 s5_3 s22_3 B3_3 B4_3 B5_3
 refine tail_nil ?_
 refine wp_ret ?_
 refine res_one (V := Value.bool (true)) rfl D4 s6_4 ?_
 exact ⟨rfl, E4⟩
 refine wp_skip ?_
 refine wp_seq ?_
 refine Rl [] [(24, Pr.ex (Dg.val (seed))), (25, Pr.ex (Value.pointer (some ⟨b4, 0, none⟩))), (26, Pr.ex (i64 (h))), (27, Pr.ex (Value.pointer (some ⟨b4, 1, none⟩))), (28, Pr.ex (i64 (i))), (29, Pr.ex (Dg.val (msg))), (30, Pr.t2 (Pr.ag2 (fun x y => Value.agg #[i64 ((keySign seed h i msg).1), x, y]) (Pr.own' DG wd3.heap.size 24 ((keySign seed h i msg).2.1)) (Pr.own' DG wd3.heap.size 24 ((keySign seed h i msg).2.2.1))) (Pr.ex (i64 (((keySign seed h i msg).2.2.2 : Nat) : Int)))), (23, Pr.t2 (Pr.ag2 (fun x y => Value.agg #[i64 ((keySign seed h i msg).1), x, y]) (Pr.own' DG wd3.heap.size 24 ((keySign seed h i msg).2.1)) (Pr.own' DG wd3.heap.size 24 ((keySign seed h i msg).2.2.1))) (Pr.ex (i64 (((keySign seed h i msg).2.2.2 : Nat) : Int)))), (31, Pr.ag2 (fun x y => Value.agg #[i64 ((keySign seed h i msg).1), x, y]) (Pr.own' DG wd3.heap.size 24 ((keySign seed h i msg).2.1)) (Pr.own' DG wd3.heap.size 24 ((keySign seed h i msg).2.2.1))), (32, Pr.ex (i64 (((keySign seed h i msg).2.2.2 : Nat) : Int)))] 10 N3 D3 ?_ ?_
 refine Ac ?_ (Ac ?_ (Ac ?_ (Ac ?_ (Ac ?_ (Ac ?_ (Ac ?_ (Ac ?_ (Ac ?_ (Ac ?_ (Az _))))))))))
 exact Ap fun aq wq _ hO hR hT => does_loadD (o := 0) (n := 4) (mid := [w32 (seed).a, w32 (seed).b, w32 (seed).c, w32 (seed).d]) (oT hO s3_3 rfl) (B3_3.ext' hR) rfl rfl (nB rfl) row_24 rfl eR
 exact Ap fun aq wq _ hO hR hT => does_indexArr (k := .i64) (i := 0) (o' := 0) arr_25 (oT hO s4_3 rfl) rfl (by decide) (by decide) rfl eR
 exact Ap fun aq wq _ hO hR hT => does_loadD1 (o := 0) (V := i64 (h)) (hT 25 rfl rfl) (B4_3.ext' hR) rfl one_3 eR
 exact Ap fun aq wq _ hO hR hT => does_indexArr (k := .i64) (i := 1) (o' := 1) arr_25 (oT hO s4_3 rfl) rfl (by decide) (by decide) rfl eR
 exact Ap fun aq wq _ hO hR hT => does_loadD1 (o := 1) (V := i64 (i)) (hT 27 rfl rfl) (B4_3.ext' hR) rfl one_3 eR
 exact Ap fun aq wq _ hO hR hT => does_loadD (o := 0) (n := 4) (mid := [w32 (msg).a, w32 (msg).b, w32 (msg).c, w32 (msg).d]) (oT hO s5_3 rfl) (B5_3.ext' hR) rfl rfl (nB rfl) row_24 rfl eR
 exact Ap fun aq wq _ hO hR hT => does_ret (vs := #[Dg.val (seed), i64 (h), i64 (i), Dg.val (msg)]) call_8 (args4 (hT 24 rfl rfl) (hT 26 rfl rfl) (hT 28 rfl rfl) (hT 29 rfl rfl)) rfl ((keySign_ seed h i msg wq (hL.ext (E3.trans hR))).mono fun v w2 h => ⟨h.2, by obtain ⟨x0, x1, hv, k0, k1⟩ := h.1; exact ⟨x0, x1, hv, (by obtain ⟨z0, z1, hz, kz0, kz1⟩ := k0; exact ⟨z0, z1, hz, OwnT.base kz0 hR.size', OwnT.base kz1 hR.size'⟩), k1⟩⟩)
 exact Ap fun aq wq _ hO hR hT => does_move rfl ⟨Ext.refl _, (hT 30 rfl rfl)⟩
 exact Ap fun aq wq _ hO hR hT => by
  obtain ⟨x0, x1, hv, k0, k1⟩ := (hT 23 rfl rfl)
  exact does_extract hv rfl ⟨Ext.refl _, k0⟩
 exact Ap fun aq wq _ hO hR hT => by
  obtain ⟨x0, x1, hv, k0, k1⟩ := (hT 23 rfl rfl)
  exact does_extract (V := i64 (((keySign seed h i msg).2.2.2 : Nat) : Int)) hv (by rw [show x1 = i64 (((keySign seed h i msg).2.2.2 : Nat) : Int) from k1]; rfl) ⟨Ext.refl _, rfl⟩
 intro a5 wd5 N5 D5 hO hR hA hU
 obtain ⟨_, _, _, _, _, _, _, _, t31, t32, _⟩ := hA
 have E5 := E3.trans hR
 have s3_5 := oT hO s3_3 rfl
 have s4_5 := oT hO s4_3 rfl
 have s5_5 := oT hO s5_3 rfl
 have B3_5 := B3_3.ext' hR
 have B4_5 := B4_3.ext' hR
 have B5_5 := B5_3.ext' hR
 obtain ⟨x31_0_5, x31_1_5, s31_5, ky31_0_5, ky31_1_5⟩ := t31
 replace ky31_0_5 : OwnT DG wd3.heap.size 24 ((keySign seed h i msg).2.1) x31_0_5 wd5 := ky31_0_5
 have nbo_x31_0_5_b3 := Ob1 ky31_0_5 B3_3
 have nbo_x31_0_5_b4 := Ob1 ky31_0_5 B4_3
 have nbo_x31_0_5_b5 := Ob1 ky31_0_5 B5_3
 have X31_0_5_5 := ky31_0_5.sl.wide (Nat.zero_le _) (.inl rfl)
 have O31_0_5_5 := OwnT.base ky31_0_5 E3.size'
 replace ky31_1_5 : OwnT DG wd3.heap.size 24 ((keySign seed h i msg).2.2.1) x31_1_5 wd5 := ky31_1_5
 have nbo_x31_1_5_b3 := Ob1 ky31_1_5 B3_3
 have nbo_x31_1_5_b4 := Ob1 ky31_1_5 B4_3
 have nbo_x31_1_5_b5 := Ob1 ky31_1_5 B5_3
 have X31_1_5_5 := ky31_1_5.sl.wide (Nat.zero_le _) (.inl rfl)
 have O31_1_5_5 := OwnT.base ky31_1_5 E3.size'
 have s32_5 : get a5 32 = i64 (((keySign seed h i msg).2.2.2 : Nat) : Int) := t32
 clear E3 N3 D3 s3_3 s4_3 s5_3 s22_3 B3_3 B4_3 B5_3
 refine tail_put rfl rfl N5 D5 (by decide) (does_alloc zero_30 (fun b7 wd6 he lo_b7 B7_6 => fun a6 N6 D6 hv hO => ?_))
 have s7_6 := hv
 have E6 := E5.trans he
 have B3_6 := B3_5.ext' he
 have B4_6 := B4_5.ext' he
 have B5_6 := B5_5.ext' he
 have X31_0_5_6 := X31_0_5_5.ext' he
 have X31_1_5_6 := X31_1_5_5.ext' he
 have O31_0_5_6 := O31_0_5_5.ext' he
 have O31_1_5_6 := O31_1_5_5.ext' he
 have fr_b7 : w0.heap.size ≤ b7 := Nat.le_trans E5.size' lo_b7
 have ne_b3_b7 := Hl B3_5 lo_b7
 have ne_b4_b7 := Hl B4_5 lo_b7
 have ne_b5_b7 := Hl B5_5 lo_b7
 have nb_x31_0_5_b7 := SlT.old X31_0_5_5 lo_b7
 have nb_x31_1_5_b7 := SlT.old X31_1_5_5 lo_b7
 have nbo_x31_0_5_b7 := Ol O31_0_5_5 lo_b7
 have nbo_x31_1_5_b7 := Ol O31_1_5_5 lo_b7
 have s3_6 := oT hO s3_5 rfl
 have s4_6 := oT hO s4_5 rfl
 have s5_6 := oT hO s5_5 rfl
 have s31_6 := oT hO s31_5 rfl
 have s32_6 := oT hO s32_5 rfl
 clear hO hv N5 D5 E5 B3_5 B4_5 B5_5 X31_0_5_5 X31_1_5_5 O31_0_5_5 O31_1_5_5 s3_5 s4_5 s5_5 s31_5 s32_5
 refine tail_none rfl rfl (does_storeD (o := 0) (n := 3) (cs' := [i64 ((keySign seed h i msg).1), x31_0_5, x31_1_5]) (V := Value.agg #[i64 ((keySign seed h i msg).1), x31_0_5, x31_1_5]) s7_6 s31_6 B7_6 (nB rfl) rfl siz_30 (one_cons rfl (one_cons (SlT.one X31_0_5_6) (one_cons (SlT.one X31_1_5_6) one_nil))) rfl (fun wd7 hX hz B7_7 => ?_))
 have E7 := E6.since hX (fun k e => e ▸ fr_b7)
 have B3_7 := B3_6.ext hX ne_b3_b7
 have B4_7 := B4_6.ext hX ne_b4_b7
 have B5_7 := B5_6.ext hX ne_b5_b7
 have X31_0_5_7 := SlT.over X31_0_5_6 hX nb_x31_0_5_b7
 have X31_1_5_7 := SlT.over X31_1_5_6 hX nb_x31_1_5_b7
 have O31_0_5_7 := OwnT.ext O31_0_5_6 hX (fun k hk e => nbo_x31_0_5_b7 (e ▸ hk))
 have O31_1_5_7 := OwnT.ext O31_1_5_6 hX (fun k hk e => nbo_x31_1_5_b7 (e ▸ hk))
 clear hX hz E6 B3_6 B4_6 B5_6 B7_6 X31_0_5_6 X31_1_5_6 O31_0_5_6 O31_1_5_6
 refine tail_put rfl rfl N6 D6 (by decide) (does_assign (V := i64 (((keySign seed h i msg).2.2.2 : Nat) : Int)) s32_6 (fun a8 N8 D8 hv hO => ?_))
 have s8_8 := hv
 have s3_8 := oT hO s3_6 rfl
 have s4_8 := oT hO s4_6 rfl
 have s5_8 := oT hO s5_6 rfl
 have s7_8 := oT hO s7_6 rfl
 clear hO hv N6 D6 s3_6 s4_6 s5_6 s7_6 s31_6 s32_6
 refine tail_nil ?_
 refine wp_seq ?_
 refine Rl [] [(34, Pr.ex (Dg.val (seed))), (35, Pr.ex (Value.pointer (some ⟨b4, 0, none⟩))), (36, Pr.ex (i64 (h))), (37, Pr.ex (Value.pointer (some ⟨b4, 1, none⟩))), (38, Pr.ex (i64 (i))), (39, Pr.ex (Dg.val (msg))), (40, Pr.t2 (Pr.ag2 (fun x y => Value.agg #[i64 ((keySign seed h i msg).1), x, y]) (Pr.own' DG wd7.heap.size 24 ((keySign seed h i msg).2.1)) (Pr.own' DG wd7.heap.size 24 ((keySign seed h i msg).2.2.1))) (Pr.ex (i64 (((keySign seed h i msg).2.2.2 : Nat) : Int)))), (33, Pr.t2 (Pr.ag2 (fun x y => Value.agg #[i64 ((keySign seed h i msg).1), x, y]) (Pr.own' DG wd7.heap.size 24 ((keySign seed h i msg).2.1)) (Pr.own' DG wd7.heap.size 24 ((keySign seed h i msg).2.2.1))) (Pr.ex (i64 (((keySign seed h i msg).2.2.2 : Nat) : Int)))), (41, Pr.ag2 (fun x y => Value.agg #[i64 ((keySign seed h i msg).1), x, y]) (Pr.own' DG wd7.heap.size 24 ((keySign seed h i msg).2.1)) (Pr.own' DG wd7.heap.size 24 ((keySign seed h i msg).2.2.1))), (42, Pr.ex (i64 (((keySign seed h i msg).2.2.2 : Nat) : Int)))] 10 N8 D8 ?_ ?_
 refine Ac ?_ (Ac ?_ (Ac ?_ (Ac ?_ (Ac ?_ (Ac ?_ (Ac ?_ (Ac ?_ (Ac ?_ (Ac ?_ (Az _))))))))))
 exact Ap fun aq wq _ hO hR hT => does_loadD (o := 0) (n := 4) (mid := [w32 (seed).a, w32 (seed).b, w32 (seed).c, w32 (seed).d]) (oT hO s3_8 rfl) (B3_7.ext' hR) rfl rfl (nB rfl) row_24 rfl eR
 exact Ap fun aq wq _ hO hR hT => does_indexArr (k := .i64) (i := 0) (o' := 0) arr_25 (oT hO s4_8 rfl) rfl (by decide) (by decide) rfl eR
 exact Ap fun aq wq _ hO hR hT => does_loadD1 (o := 0) (V := i64 (h)) (hT 35 rfl rfl) (B4_7.ext' hR) rfl one_3 eR
 exact Ap fun aq wq _ hO hR hT => does_indexArr (k := .i64) (i := 1) (o' := 1) arr_25 (oT hO s4_8 rfl) rfl (by decide) (by decide) rfl eR
 exact Ap fun aq wq _ hO hR hT => does_loadD1 (o := 1) (V := i64 (i)) (hT 37 rfl rfl) (B4_7.ext' hR) rfl one_3 eR
 exact Ap fun aq wq _ hO hR hT => does_loadD (o := 0) (n := 4) (mid := [w32 (msg).a, w32 (msg).b, w32 (msg).c, w32 (msg).d]) (oT hO s5_8 rfl) (B5_7.ext' hR) rfl rfl (nB rfl) row_24 rfl eR
 exact Ap fun aq wq _ hO hR hT => does_ret (vs := #[Dg.val (seed), i64 (h), i64 (i), Dg.val (msg)]) call_9 (args4 (hT 34 rfl rfl) (hT 36 rfl rfl) (hT 38 rfl rfl) (hT 39 rfl rfl)) rfl ((keySignR seed h i msg wq).mono fun v w2 h => ⟨h.2, by obtain ⟨x0, x1, hv, k0, k1⟩ := h.1; exact ⟨x0, x1, hv, (by obtain ⟨z0, z1, hz, kz0, kz1⟩ := k0; exact ⟨z0, z1, hz, OwnT.base kz0 hR.size', OwnT.base kz1 hR.size'⟩), k1⟩⟩)
 exact Ap fun aq wq _ hO hR hT => does_move rfl ⟨Ext.refl _, (hT 40 rfl rfl)⟩
 exact Ap fun aq wq _ hO hR hT => by
  obtain ⟨x0, x1, hv, k0, k1⟩ := (hT 33 rfl rfl)
  exact does_extract hv rfl ⟨Ext.refl _, k0⟩
 exact Ap fun aq wq _ hO hR hT => by
  obtain ⟨x0, x1, hv, k0, k1⟩ := (hT 33 rfl rfl)
  exact does_extract (V := i64 (((keySign seed h i msg).2.2.2 : Nat) : Int)) hv (by rw [show x1 = i64 (((keySign seed h i msg).2.2.2 : Nat) : Int) from k1]; rfl) ⟨Ext.refl _, rfl⟩
 intro a9 wd9 N9 D9 hO hR hA hU
 obtain ⟨_, _, _, _, _, _, _, _, t41, t42, _⟩ := hA
 have E9 := E7.trans hR
 have s3_9 := oT hO s3_8 rfl
 have s4_9 := oT hO s4_8 rfl
 have s5_9 := oT hO s5_8 rfl
 have s7_9 := oT hO s7_8 rfl
 have s8_9 := oT hO s8_8 rfl
 have B3_9 := B3_7.ext' hR
 have B4_9 := B4_7.ext' hR
 have B5_9 := B5_7.ext' hR
 have B7_9 := B7_7.ext' hR
 have X31_0_5_9 := X31_0_5_7.ext' hR
 have X31_1_5_9 := X31_1_5_7.ext' hR
 have O31_0_5_9 := O31_0_5_7.ext' hR
 have O31_1_5_9 := O31_1_5_7.ext' hR
 obtain ⟨x41_0_9, x41_1_9, s41_9, ky41_0_9, ky41_1_9⟩ := t41
 replace ky41_0_9 : OwnT DG wd7.heap.size 24 ((keySign seed h i msg).2.1) x41_0_9 wd9 := ky41_0_9
 have nbo_x41_0_9_b3 := Ob1 ky41_0_9 B3_7
 have nbo_x41_0_9_b4 := Ob1 ky41_0_9 B4_7
 have nbo_x41_0_9_b5 := Ob1 ky41_0_9 B5_7
 have nbo_x41_0_9_b7 := Ob1 ky41_0_9 B7_7
 have no_x41_0_9_x31_0_5 := Oo ky41_0_9 O31_0_5_7
 have no_x41_0_9_x31_1_5 := Oo ky41_0_9 O31_1_5_7
 have X41_0_9_9 := ky41_0_9.sl.wide (Nat.zero_le _) (.inl rfl)
 have O41_0_9_9 := OwnT.base ky41_0_9 E7.size'
 replace ky41_1_9 : OwnT DG wd7.heap.size 24 ((keySign seed h i msg).2.2.1) x41_1_9 wd9 := ky41_1_9
 have nbo_x41_1_9_b3 := Ob1 ky41_1_9 B3_7
 have nbo_x41_1_9_b4 := Ob1 ky41_1_9 B4_7
 have nbo_x41_1_9_b5 := Ob1 ky41_1_9 B5_7
 have nbo_x41_1_9_b7 := Ob1 ky41_1_9 B7_7
 have no_x41_1_9_x31_0_5 := Oo ky41_1_9 O31_0_5_7
 have no_x41_1_9_x31_1_5 := Oo ky41_1_9 O31_1_5_7
 have X41_1_9_9 := ky41_1_9.sl.wide (Nat.zero_le _) (.inl rfl)
 have O41_1_9_9 := OwnT.base ky41_1_9 E7.size'
 have s42_9 : get a9 42 = i64 (((keySign seed h i msg).2.2.2 : Nat) : Int) := t42
 clear E7 N8 D8 s3_8 s4_8 s5_8 s7_8 s8_8 B3_7 B4_7 B5_7 B7_7 X31_0_5_7 X31_1_5_7 O31_0_5_7 O31_1_5_7
 refine tail_put rfl rfl N9 D9 (by decide) (does_alloc zero_30 (fun b9 wd10 he lo_b9 B9_10 => fun a10 N10 D10 hv hO => ?_))
 have s9_10 := hv
 have E10 := E9.trans he
 have B3_10 := B3_9.ext' he
 have B4_10 := B4_9.ext' he
 have B5_10 := B5_9.ext' he
 have B7_10 := B7_9.ext' he
 have X31_0_5_10 := X31_0_5_9.ext' he
 have X31_1_5_10 := X31_1_5_9.ext' he
 have X41_0_9_10 := X41_0_9_9.ext' he
 have X41_1_9_10 := X41_1_9_9.ext' he
 have O31_0_5_10 := O31_0_5_9.ext' he
 have O31_1_5_10 := O31_1_5_9.ext' he
 have O41_0_9_10 := O41_0_9_9.ext' he
 have O41_1_9_10 := O41_1_9_9.ext' he
 have fr_b9 : w0.heap.size ≤ b9 := Nat.le_trans E9.size' lo_b9
 have ne_b3_b9 := Hl B3_9 lo_b9
 have ne_b4_b9 := Hl B4_9 lo_b9
 have ne_b5_b9 := Hl B5_9 lo_b9
 have ne_b7_b9 := Hl B7_9 lo_b9
 have nb_x31_0_5_b9 := SlT.old X31_0_5_9 lo_b9
 have nb_x31_1_5_b9 := SlT.old X31_1_5_9 lo_b9
 have nb_x41_0_9_b9 := SlT.old X41_0_9_9 lo_b9
 have nb_x41_1_9_b9 := SlT.old X41_1_9_9 lo_b9
 have nbo_x31_0_5_b9 := Ol O31_0_5_9 lo_b9
 have nbo_x31_1_5_b9 := Ol O31_1_5_9 lo_b9
 have nbo_x41_0_9_b9 := Ol O41_0_9_9 lo_b9
 have nbo_x41_1_9_b9 := Ol O41_1_9_9 lo_b9
 have s3_10 := oT hO s3_9 rfl
 have s4_10 := oT hO s4_9 rfl
 have s5_10 := oT hO s5_9 rfl
 have s7_10 := oT hO s7_9 rfl
 have s8_10 := oT hO s8_9 rfl
 have s41_10 := oT hO s41_9 rfl
 have s42_10 := oT hO s42_9 rfl
 clear hO hv N9 D9 E9 B3_9 B4_9 B5_9 B7_9 X31_0_5_9 X31_1_5_9 X41_0_9_9 X41_1_9_9 O31_0_5_9 O31_1_5_9 O41_0_9_9 O41_1_9_9 s3_9 s4_9 s5_9 s7_9 s8_9 s41_9 s42_9
 refine tail_none rfl rfl (does_storeD (o := 0) (n := 3) (cs' := [i64 ((keySign seed h i msg).1), x41_0_9, x41_1_9]) (V := Value.agg #[i64 ((keySign seed h i msg).1), x41_0_9, x41_1_9]) s9_10 s41_10 B9_10 (nB rfl) rfl siz_30 (one_cons rfl (one_cons (SlT.one X41_0_9_10) (one_cons (SlT.one X41_1_9_10) one_nil))) rfl (fun wd11 hX hz B9_11 => ?_))
 have E11 := E10.since hX (fun k e => e ▸ fr_b9)
 have B3_11 := B3_10.ext hX ne_b3_b9
 have B4_11 := B4_10.ext hX ne_b4_b9
 have B5_11 := B5_10.ext hX ne_b5_b9
 have B7_11 := B7_10.ext hX ne_b7_b9
 have X31_0_5_11 := SlT.over X31_0_5_10 hX nb_x31_0_5_b9
 have X31_1_5_11 := SlT.over X31_1_5_10 hX nb_x31_1_5_b9
 have X41_0_9_11 := SlT.over X41_0_9_10 hX nb_x41_0_9_b9
 have X41_1_9_11 := SlT.over X41_1_9_10 hX nb_x41_1_9_b9
 have O31_0_5_11 := OwnT.ext O31_0_5_10 hX (fun k hk e => nbo_x31_0_5_b9 (e ▸ hk))
 have O31_1_5_11 := OwnT.ext O31_1_5_10 hX (fun k hk e => nbo_x31_1_5_b9 (e ▸ hk))
 have O41_0_9_11 := OwnT.ext O41_0_9_10 hX (fun k hk e => nbo_x41_0_9_b9 (e ▸ hk))
 have O41_1_9_11 := OwnT.ext O41_1_9_10 hX (fun k hk e => nbo_x41_1_9_b9 (e ▸ hk))
 clear hX hz E10 B3_10 B4_10 B5_10 B7_10 B9_10 X31_0_5_10 X31_1_5_10 X41_0_9_10 X41_1_9_10 O31_0_5_10 O31_1_5_10 O41_0_9_10 O41_1_9_10
 refine tail_put rfl rfl N10 D10 (by decide) (does_assign (V := i64 (((keySign seed h i msg).2.2.2 : Nat) : Int)) s42_10 (fun a12 N12 D12 hv hO => ?_))
 have s10_12 := hv
 have s3_12 := oT hO s3_10 rfl
 have s4_12 := oT hO s4_10 rfl
 have s5_12 := oT hO s5_10 rfl
 have s7_12 := oT hO s7_10 rfl
 have s8_12 := oT hO s8_10 rfl
 have s9_12 := oT hO s9_10 rfl
 clear hO hv N10 D10 s3_10 s4_10 s5_10 s7_10 s8_10 s9_10 s41_10 s42_10
 refine tail_nil ?_
 refine wp_seq ?_
 refine wp_seq ?_
 refine Rl [] [(43, Pr.ex (i64 (((keySign seed h i msg).2.2.2 : Nat) : Int))), (44, Pr.ex (i64 (((keySign seed h i msg).2.2.2 : Nat) : Int))), (45, Pr.ex (Value.bool (!decide ((((keySign seed h i msg).2.2.2 : Nat) : Int) = (((keySign seed h i msg).2.2.2 : Nat) : Int))))), (46, Pr.ex (Value.bool (!decide ((((keySign seed h i msg).2.2.2 : Nat) : Int) = (((keySign seed h i msg).2.2.2 : Nat) : Int))))), (47, Pr.ifb (!(!decide ((((keySign seed h i msg).2.2.2 : Nat) : Int) = (((keySign seed h i msg).2.2.2 : Nat) : Int)))) (Pr.ex (Value.agg #[i64 ((keySign seed h i msg).1), x31_0_5, x31_1_5]))), (48, Pr.ifb (!(!decide ((((keySign seed h i msg).2.2.2 : Nat) : Int) = (((keySign seed h i msg).2.2.2 : Nat) : Int)))) (Pr.ex (Value.agg #[i64 ((keySign seed h i msg).1), x41_0_9, x41_1_9]))), (49, Pr.ifb (!(!decide ((((keySign seed h i msg).2.2.2 : Nat) : Int) = (((keySign seed h i msg).2.2.2 : Nat) : Int)))) (Pr.ex (Value.bool ((decide ((keySign seed h i msg).1 = (keySign seed h i msg).1) && decide ((keySign seed h i msg).2.1 = (keySign seed h i msg).2.1)) && decide ((keySign seed h i msg).2.2.1 = (keySign seed h i msg).2.2.1))))), (50, Pr.ifb (!(!decide ((((keySign seed h i msg).2.2.2 : Nat) : Int) = (((keySign seed h i msg).2.2.2 : Nat) : Int)))) (Pr.ex (Value.bool (!((decide ((keySign seed h i msg).1 = (keySign seed h i msg).1) && decide ((keySign seed h i msg).2.1 = (keySign seed h i msg).2.1)) && decide ((keySign seed h i msg).2.2.1 = (keySign seed h i msg).2.2.1)))))), (51, Pr.ex (Value.bool ((!decide ((((keySign seed h i msg).2.2.2 : Nat) : Int) = (((keySign seed h i msg).2.2.2 : Nat) : Int))) || (!((decide ((keySign seed h i msg).1 = (keySign seed h i msg).1) && decide ((keySign seed h i msg).2.1 = (keySign seed h i msg).2.1)) && decide ((keySign seed h i msg).2.2.1 = (keySign seed h i msg).2.2.1))))))] 9 N12 D12 ?_ ?_
 refine Ac ?_ (Ac ?_ (Ac ?_ (Ac ?_ (Ac ?_ (Ac ?_ (Ac ?_ (Ac ?_ (Ac ?_ (Az _)))))))))
 exact Am s8_12 rfl fun _ => rfl
 exact Am s10_12 rfl fun _ => rfl
 exact Ap fun aq wq _ hO hR hT => does_neq (a := (((keySign seed h i msg).2.2.2 : Nat) : Int)) (b := (((keySign seed h i msg).2.2.2 : Nat) : Int)) (hT 43 rfl rfl) (hT 44 rfl rfl) eR
 exact Ap fun aq wq _ hO hR hT => does_move (V := Value.bool (!decide ((((keySign seed h i msg).2.2.2 : Nat) : Int) = (((keySign seed h i msg).2.2.2 : Nat) : Int)))) (hT 45 rfl rfl) eR
 refine Ask.guarded (B := !decide ((((keySign seed h i msg).2.2.2 : Nat) : Int) = (((keySign seed h i msg).2.2.2 : Nat) : Int))) (want := false) (t := 46) rfl rfl rfl rfl (by decide) (fun aq wq hO hR hT => hT 46 rfl rfl) (fun hG aq wq hNq hO hR hT => ?_) (fun hno _ => fun hc => absurd (bn hc) hno)
 replace hG := nb hG
 exact does_loadD (o := 0) (n := 3) (mid := [i64 ((keySign seed h i msg).1), x31_0_5, x31_1_5]) (oT hO s7_12 rfl) (B7_11.ext' hR) rfl rfl (nB rfl) row_30 rfl ⟨Ext.refl _, fun _ => rfl⟩
 refine Ask.guarded (B := !decide ((((keySign seed h i msg).2.2.2 : Nat) : Int) = (((keySign seed h i msg).2.2.2 : Nat) : Int))) (want := false) (t := 46) rfl rfl rfl rfl (by decide) (fun aq wq hO hR hT => hT 46 rfl rfl) (fun hG aq wq hNq hO hR hT => ?_) (fun hno _ => fun hc => absurd (bn hc) hno)
 replace hG := nb hG
 exact does_loadD (o := 0) (n := 3) (mid := [i64 ((keySign seed h i msg).1), x41_0_9, x41_1_9]) (oT hO s9_12 rfl) (B9_11.ext' hR) rfl rfl (nB rfl) row_30 rfl ⟨Ext.refl _, fun _ => rfl⟩
 refine Ask.guarded (B := !decide ((((keySign seed h i msg).2.2.2 : Nat) : Int) = (((keySign seed h i msg).2.2.2 : Nat) : Int))) (want := false) (t := 46) rfl rfl rfl rfl (by decide) (fun aq wq hO hR hT => hT 46 rfl rfl) (fun hG aq wq hNq hO hR hT => ?_) (fun hno _ => fun hc => absurd (bn hc) hno)
 replace hG := nb hG
 exact does_ret (vs := #[Value.agg #[i64 ((keySign seed h i msg).1), x31_0_5, x31_1_5], Value.agg #[i64 ((keySign seed h i msg).1), x41_0_9, x41_1_9]]) call_10 (args2 (hT 47 rfl rfl hG) (hT 48 rfl rfl hG)) rfl ((sameSig ((keySign seed h i msg).1) ((keySign seed h i msg).1) ((keySign seed h i msg).2.1) ((keySign seed h i msg).2.2.1) ((keySign seed h i msg).2.1) ((keySign seed h i msg).2.2.1) (x31_0_5) (x31_1_5) (x41_0_9) (x41_1_9) wq ((X31_0_5_11.ext' hR).wide (Nat.zero_le _) (.inl rfl)) ((X31_1_5_11.ext' hR).wide (Nat.zero_le _) (.inl rfl)) ((X41_0_9_11.ext' hR).wide (Nat.zero_le _) (.inl rfl)) ((X41_1_9_11.ext' hR).wide (Nat.zero_le _) (.inl rfl)) (Nat.le_trans keySign_len.1 (by decide)) (Nat.le_trans keySign_len.2 (by decide))).mono fun v w2 h => ⟨h.2, fun _ => h.1⟩)
 refine Ask.guarded (B := !decide ((((keySign seed h i msg).2.2.2 : Nat) : Int) = (((keySign seed h i msg).2.2.2 : Nat) : Int))) (want := false) (t := 46) rfl rfl rfl rfl (by decide) (fun aq wq hO hR hT => hT 46 rfl rfl) (fun hG aq wq hNq hO hR hT => ?_) (fun hno _ => fun hc => absurd (bn hc) hno)
 replace hG := nb hG
 exact does_not (B := (decide ((keySign seed h i msg).1 = (keySign seed h i msg).1) && decide ((keySign seed h i msg).2.1 = (keySign seed h i msg).2.1)) && decide ((keySign seed h i msg).2.2.1 = (keySign seed h i msg).2.2.1)) (hT 49 rfl rfl hG) ⟨Ext.refl _, fun _ => rfl⟩
 exact Ap fun aq wq _ hO hR hT => does_or (B := !decide ((((keySign seed h i msg).2.2.2 : Nat) : Int) = (((keySign seed h i msg).2.2.2 : Nat) : Int))) (X := !((decide ((keySign seed h i msg).1 = (keySign seed h i msg).1) && decide ((keySign seed h i msg).2.1 = (keySign seed h i msg).2.1)) && decide ((keySign seed h i msg).2.2.1 = (keySign seed h i msg).2.2.1))) (hT 46 rfl rfl) rfl (fun hB => (hT 50 rfl rfl (nb hB))) eR
 intro a13 wd13 N13 D13 hO hR hA hU
 obtain ⟨_, _, _, _, _, _, _, _, t51, _⟩ := hA
 have E13 := E11.trans hR
 have s3_13 := oT hO s3_12 rfl
 have s4_13 := oT hO s4_12 rfl
 have s5_13 := oT hO s5_12 rfl
 have s7_13 := oT hO s7_12 rfl
 have s8_13 := oT hO s8_12 rfl
 have B3_13 := B3_11.ext' hR
 have B4_13 := B4_11.ext' hR
 have B5_13 := B5_11.ext' hR
 have B7_13 := B7_11.ext' hR
 have B9_13 := B9_11.ext' hR
 have X31_0_5_13 := X31_0_5_11.ext' hR
 have X31_1_5_13 := X31_1_5_11.ext' hR
 have X41_0_9_13 := X41_0_9_11.ext' hR
 have X41_1_9_13 := X41_1_9_11.ext' hR
 have O31_0_5_13 := O31_0_5_11.ext' hR
 have O31_1_5_13 := O31_1_5_11.ext' hR
 have O41_0_9_13 := O41_0_9_11.ext' hR
 have O41_1_9_13 := O41_1_9_11.ext' hR
 have s51_13 : get a13 51 = Value.bool ((!decide ((((keySign seed h i msg).2.2.2 : Nat) : Int) = (((keySign seed h i msg).2.2.2 : Nat) : Int))) || (!((decide ((keySign seed h i msg).1 = (keySign seed h i msg).1) && decide ((keySign seed h i msg).2.1 = (keySign seed h i msg).2.1)) && decide ((keySign seed h i msg).2.2.1 = (keySign seed h i msg).2.2.1)))) := t51
 clear E11 N12 D12 s3_12 s4_12 s5_12 s7_12 s8_12 s9_12 s10_12 B3_11 B4_11 B5_11 B7_11 B9_11 X31_0_5_11 X31_1_5_11 X41_0_9_11 X41_1_9_11 O31_0_5_11 O31_1_5_11 O41_0_9_11 O41_1_9_11
 refine tail_nil ?_
 refine wp_if (B := (!decide ((((keySign seed h i msg).2.2.2 : Nat) : Int) = (((keySign seed h i msg).2.2.2 : Nat) : Int))) || (!((decide ((keySign seed h i msg).1 = (keySign seed h i msg).1) && decide ((keySign seed h i msg).2.1 = (keySign seed h i msg).2.1)) && decide ((keySign seed h i msg).2.2.1 = (keySign seed h i msg).2.2.1)))) s51_13 (fun hc1 => ?_) (fun hc1 => ?_)
 simp at hc1
 refine wp_skip ?_
 refine wp_seq ?_
 refine wp_seq ?_
 refine Rl [] [(52, Pr.ex (i64 (((keySign seed h i msg).2.2.2 : Nat) : Int))), (53, Pr.ex (Value.bool (!decide ((((keySign seed h i msg).2.2.2 : Nat) : Int) = ((0 : Nat) : Int)))))] 2 N13 D13 ?_ ?_
 refine Ac ?_ (Ac ?_ (Az _))
 exact Am s8_13 rfl fun _ => rfl
 exact Ap fun aq wq _ hO hR hT => does_neq (a := (((keySign seed h i msg).2.2.2 : Nat) : Int)) (b := ((0 : Nat) : Int)) (hT 52 rfl rfl) rfl eR
 intro a14 wd14 N14 D14 hO hR hA hU
 obtain ⟨_, t53, _⟩ := hA
 have E14 := E13.trans hR
 have s3_14 := oT hO s3_13 rfl
 have s4_14 := oT hO s4_13 rfl
 have s5_14 := oT hO s5_13 rfl
 have s7_14 := oT hO s7_13 rfl
 have B3_14 := B3_13.ext' hR
 have B4_14 := B4_13.ext' hR
 have B5_14 := B5_13.ext' hR
 have B7_14 := B7_13.ext' hR
 have B9_14 := B9_13.ext' hR
 have X31_0_5_14 := X31_0_5_13.ext' hR
 have X31_1_5_14 := X31_1_5_13.ext' hR
 have X41_0_9_14 := X41_0_9_13.ext' hR
 have X41_1_9_14 := X41_1_9_13.ext' hR
 have O31_0_5_14 := O31_0_5_13.ext' hR
 have O31_1_5_14 := O31_1_5_13.ext' hR
 have O41_0_9_14 := O41_0_9_13.ext' hR
 have O41_1_9_14 := O41_1_9_13.ext' hR
 have s53_14 : get a14 53 = Value.bool (!decide ((((keySign seed h i msg).2.2.2 : Nat) : Int) = ((0 : Nat) : Int))) := t53
 clear E13 N13 D13 s3_13 s4_13 s5_13 s7_13 s8_13 s51_13 B3_13 B4_13 B5_13 B7_13 B9_13 X31_0_5_13 X31_1_5_13 X41_0_9_13 X41_1_9_13 O31_0_5_13 O31_1_5_13 O41_0_9_13 O41_1_9_13
 refine tail_nil ?_
 refine wp_if (B := !decide ((((keySign seed h i msg).2.2.2 : Nat) : Int) = ((0 : Nat) : Int))) s53_14 (fun hc2 => ?_) (fun hc2 => ?_)
 have hc2 := of_decide_eq_false (bn hc2)
 refine wp_seq ?_
 refine Rl [] [(6, Pr.ex (Value.bool (true)))] 1 N14 D14 ?_ ?_
 refine Ac ?_ (Az _)
 exact Ap fun aq wq _ hO hR hT => does_assign (V := Value.bool (true)) rfl eR
 intro a15 wd15 N15 D15 hO hR hA hU
 obtain ⟨t6, _⟩ := hA
 have E15 := E14.trans hR
 have B3_15 := B3_14.ext' hR
 have B4_15 := B4_14.ext' hR
 have B5_15 := B5_14.ext' hR
 have B7_15 := B7_14.ext' hR
 have B9_15 := B9_14.ext' hR
 have X31_0_5_15 := X31_0_5_14.ext' hR
 have X31_1_5_15 := X31_1_5_14.ext' hR
 have X41_0_9_15 := X41_0_9_14.ext' hR
 have X41_1_9_15 := X41_1_9_14.ext' hR
 have O31_0_5_15 := O31_0_5_14.ext' hR
 have O31_1_5_15 := O31_1_5_14.ext' hR
 have O41_0_9_15 := O41_0_9_14.ext' hR
 have O41_1_9_15 := O41_1_9_14.ext' hR
 have s6_15 : get a15 6 = Value.bool (true) := t6
 clear E14 N14 D14 s3_14 s4_14 s5_14 s7_14 s53_14 B3_14 B4_14 B5_14 B7_14 B9_14 X31_0_5_14 X31_1_5_14 X41_0_9_14 X41_1_9_14 O31_0_5_14 O31_1_5_14 O41_0_9_14 O41_1_9_14
 refine tail_nil ?_
 refine wp_ret ?_
 refine res_one (V := Value.bool (true)) rfl D15 s6_15 ?_
 exact ⟨rfl, E15⟩
 have hc2 := of_decide_eq_true (bn' hc2)
 obtain ⟨hb, hbi⟩ := (keySign_err (seed := seed) (h := h) (i := i) (msg := msg)).1 (by omega)
 have hp16 := pw_toNat hb
 refine wp_skip ?_
 refine wp_seq ?_
 refine Rl [11] [(55, Pr.ex (Dg.val (seed))), (56, Pr.ex (Value.pointer (some ⟨b4, 0, none⟩))), (57, Pr.ex (i64 (h))), (58, Pr.ex (Value.tuple #[Dg.val ((keyPub seed h).1), i64 (((keyPub seed h).2 : Nat) : Int)])), (54, Pr.ex (Value.tuple #[Dg.val ((keyPub seed h).1), i64 (((keyPub seed h).2 : Nat) : Int)])), (59, Pr.ex (Dg.val ((keyPub seed h).1))), (60, Pr.ex (i64 (((keyPub seed h).2 : Nat) : Int))), (11, Pr.box' wd14.heap.size 24 [w32 (Dg.zero).a, w32 (Dg.zero).b, w32 (Dg.zero).c, w32 (Dg.zero).d])] 8 N14 D14 ?_ ?_
 refine Ac ?_ (Ac ?_ (Ac ?_ (Ac ?_ (Ac ?_ (Ac ?_ (Ac ?_ (Ac ?_ (Az _))))))))
 exact Ap fun aq wq _ hO hR hT => does_loadD (o := 0) (n := 4) (mid := [w32 (seed).a, w32 (seed).b, w32 (seed).c, w32 (seed).d]) (oT hO s3_14 rfl) (B3_14.ext' hR) rfl rfl (nB rfl) row_24 rfl eR
 exact Ap fun aq wq _ hO hR hT => does_indexArr (k := .i64) (i := 0) (o' := 0) arr_25 (oT hO s4_14 rfl) rfl (by decide) (by decide) rfl eR
 exact Ap fun aq wq _ hO hR hT => does_loadD1 (o := 0) (V := i64 (h)) (hT 56 rfl rfl) (B4_14.ext' hR) rfl one_3 eR
 exact Ap fun aq wq _ hO hR hT => does_ret (vs := #[Dg.val (seed), i64 (h)]) call_11 (args2 (hT 55 rfl rfl) (hT 57 rfl rfl)) rfl ((keyPub_ seed h wq (hL.ext (E14.trans hR))).mono fun v w2 h => ⟨h.2, h.1⟩)
 exact Ap fun aq wq _ hO hR hT => does_move (V := Value.tuple #[Dg.val ((keyPub seed h).1), i64 (((keyPub seed h).2 : Nat) : Int)]) (hT 58 rfl rfl) eR
 exact Ap fun aq wq _ hO hR hT => does_extract (V := Dg.val ((keyPub seed h).1)) (hT 54 rfl rfl) rfl eR
 exact Ap fun aq wq _ hO hR hT => does_extract (V := i64 (((keyPub seed h).2 : Nat) : Int)) (hT 54 rfl rfl) rfl eR
 refine Ask.fresh rfl rfl ?_
 intro aq wq hNq hO hR hT
 exact does_alloc zero_24 (fun b w2 he hlo hb => ⟨he, ⟨b, rfl, Nat.le_trans hR.size' hlo, hb⟩, ⟨b, rfl, hlo, hb.lt⟩⟩)
 intro a16 wd16 N16 D16 hO hR hA hU
 obtain ⟨_, _, _, _, _, t59, t60, t11, _⟩ := hA
 have E16 := E14.trans hR
 have s5_16 := oT hO s5_14 rfl
 have s7_16 := oT hO s7_14 rfl
 have B3_16 := B3_14.ext' hR
 have B4_16 := B4_14.ext' hR
 have B5_16 := B5_14.ext' hR
 have B7_16 := B7_14.ext' hR
 have B9_16 := B9_14.ext' hR
 have X31_0_5_16 := X31_0_5_14.ext' hR
 have X31_1_5_16 := X31_1_5_14.ext' hR
 have X41_0_9_16 := X41_0_9_14.ext' hR
 have X41_1_9_16 := X41_1_9_14.ext' hR
 have O31_0_5_16 := O31_0_5_14.ext' hR
 have O31_1_5_16 := O31_1_5_14.ext' hR
 have O41_0_9_16 := O41_0_9_14.ext' hR
 have O41_1_9_16 := O41_1_9_14.ext' hR
 have s59_16 : get a16 59 = Dg.val ((keyPub seed h).1) := t59
 have s60_16 : get a16 60 = i64 (((keyPub seed h).2 : Nat) : Int) := t60
 obtain ⟨b11, s11_16, lo_b11, B11_16⟩ := t11
 have ne_b3_b11 := Hl B3_14 lo_b11
 have ne_b4_b11 := Hl B4_14 lo_b11
 have ne_b5_b11 := Hl B5_14 lo_b11
 have ne_b7_b11 := Hl B7_14 lo_b11
 have ne_b9_b11 := Hl B9_14 lo_b11
 have nb_x31_0_5_b11 := SlT.old X31_0_5_14 lo_b11
 have nb_x31_1_5_b11 := SlT.old X31_1_5_14 lo_b11
 have nb_x41_0_9_b11 := SlT.old X41_0_9_14 lo_b11
 have nb_x41_1_9_b11 := SlT.old X41_1_9_14 lo_b11
 have nbo_x31_0_5_b11 := Ol O31_0_5_14 lo_b11
 have nbo_x31_1_5_b11 := Ol O31_1_5_14 lo_b11
 have nbo_x41_0_9_b11 := Ol O41_0_9_14 lo_b11
 have nbo_x41_1_9_b11 := Ol O41_1_9_14 lo_b11
 have fr_b11 : w0.heap.size ≤ b11 := Nat.le_trans E14.size' lo_b11
 clear E14 N14 D14 s3_14 s4_14 s5_14 s7_14 s53_14 B3_14 B4_14 B5_14 B7_14 B9_14 X31_0_5_14 X31_1_5_14 X41_0_9_14 X41_1_9_14 O31_0_5_14 O31_1_5_14 O41_0_9_14 O41_1_9_14
 refine tail_none rfl rfl (does_storeD (o := 0) (n := 4) (cs' := [w32 ((keyPub seed h).1).a, w32 ((keyPub seed h).1).b, w32 ((keyPub seed h).1).c, w32 ((keyPub seed h).1).d]) (V := Dg.val ((keyPub seed h).1)) s11_16 s59_16 B11_16 (nB rfl) rfl siz_24 rfl rfl (fun wd17 hX hz B11_17 => ?_))
 have E17 := E16.since hX (fun k e => e ▸ fr_b11)
 have B3_17 := B3_16.ext hX ne_b3_b11
 have B4_17 := B4_16.ext hX ne_b4_b11
 have B5_17 := B5_16.ext hX ne_b5_b11
 have B7_17 := B7_16.ext hX ne_b7_b11
 have B9_17 := B9_16.ext hX ne_b9_b11
 have X31_0_5_17 := SlT.over X31_0_5_16 hX nb_x31_0_5_b11
 have X31_1_5_17 := SlT.over X31_1_5_16 hX nb_x31_1_5_b11
 have X41_0_9_17 := SlT.over X41_0_9_16 hX nb_x41_0_9_b11
 have X41_1_9_17 := SlT.over X41_1_9_16 hX nb_x41_1_9_b11
 have O31_0_5_17 := OwnT.ext O31_0_5_16 hX (fun k hk e => nbo_x31_0_5_b11 (e ▸ hk))
 have O31_1_5_17 := OwnT.ext O31_1_5_16 hX (fun k hk e => nbo_x31_1_5_b11 (e ▸ hk))
 have O41_0_9_17 := OwnT.ext O41_0_9_16 hX (fun k hk e => nbo_x41_0_9_b11 (e ▸ hk))
 have O41_1_9_17 := OwnT.ext O41_1_9_16 hX (fun k hk e => nbo_x41_1_9_b11 (e ▸ hk))
 clear hX hz E16 B3_16 B4_16 B5_16 B7_16 B9_16 B11_16 X31_0_5_16 X31_1_5_16 X41_0_9_16 X41_1_9_16 O31_0_5_16 O31_1_5_16 O41_0_9_16 O41_1_9_16
 refine tail_put rfl rfl N16 D16 (by decide) (does_assign (V := i64 (((keyPub seed h).2 : Nat) : Int)) s60_16 (fun a18 N18 D18 hv hO => ?_))
 have s12_18 := hv
 have s5_18 := oT hO s5_16 rfl
 have s7_18 := oT hO s7_16 rfl
 have s11_18 := oT hO s11_16 rfl
 clear hO hv N16 D16 s5_16 s7_16 s11_16 s59_16 s60_16
 refine tail_nil ?_
 refine wp_seq ?_
 refine Rl [] [(61, Pr.ex (i64 (((keyPub seed h).2 : Nat) : Int))), (62, Pr.ex (Value.bool (decide ((((keyPub seed h).2 : Nat) : Int) = ((0 : Nat) : Int))))), (63, Pr.ex (Value.bool (decide ((((keyPub seed h).2 : Nat) : Int) = ((0 : Nat) : Int))))), (64, Pr.ifb (decide ((((keyPub seed h).2 : Nat) : Int) = ((0 : Nat) : Int))) (Pr.ex (Dg.val ((keyPub seed h).1)))), (65, Pr.ifb (decide ((((keyPub seed h).2 : Nat) : Int) = ((0 : Nat) : Int))) (Pr.ex (Dg.val (msg)))), (66, Pr.ifb (decide ((((keyPub seed h).2 : Nat) : Int) = ((0 : Nat) : Int))) (Pr.ex (Value.agg #[i64 ((keySign seed h i msg).1), x31_0_5, x31_1_5]))), (67, Pr.ifb (decide ((((keyPub seed h).2 : Nat) : Int) = ((0 : Nat) : Int))) (Pr.ex (Value.bool (keyCheck ((keyPub seed h).1) msg ((keySign seed h i msg).1) ((keySign seed h i msg).2.1) ((keySign seed h i msg).2.2.1))))), (68, Pr.ex (Value.bool ((decide ((((keyPub seed h).2 : Nat) : Int) = ((0 : Nat) : Int))) && (keyCheck ((keyPub seed h).1) msg ((keySign seed h i msg).1) ((keySign seed h i msg).2.1) ((keySign seed h i msg).2.2.1))))), (6, Pr.ex (Value.bool ((decide ((((keyPub seed h).2 : Nat) : Int) = ((0 : Nat) : Int))) && (keyCheck ((keyPub seed h).1) msg ((keySign seed h i msg).1) ((keySign seed h i msg).2.1) ((keySign seed h i msg).2.2.1)))))] 9 N18 D18 ?_ ?_
 refine Ac ?_ (Ac ?_ (Ac ?_ (Ac ?_ (Ac ?_ (Ac ?_ (Ac ?_ (Ac ?_ (Ac ?_ (Az _)))))))))
 exact Am s12_18 rfl fun _ => rfl
 exact Ap fun aq wq _ hO hR hT => does_eql (a := (((keyPub seed h).2 : Nat) : Int)) (b := ((0 : Nat) : Int)) (hT 61 rfl rfl) rfl eR
 exact Ap fun aq wq _ hO hR hT => does_move (V := Value.bool (decide ((((keyPub seed h).2 : Nat) : Int) = ((0 : Nat) : Int)))) (hT 62 rfl rfl) eR
 refine Ask.guarded (B := decide ((((keyPub seed h).2 : Nat) : Int) = ((0 : Nat) : Int))) (want := true) (t := 63) rfl rfl rfl rfl (by decide) (fun aq wq hO hR hT => hT 63 rfl rfl) (fun hG aq wq hNq hO hR hT => ?_) (fun hno _ => fun hc => absurd hc hno)
 exact does_loadD (o := 0) (n := 4) (mid := [w32 ((keyPub seed h).1).a, w32 ((keyPub seed h).1).b, w32 ((keyPub seed h).1).c, w32 ((keyPub seed h).1).d]) (oT hO s11_18 rfl) (B11_17.ext' hR) rfl rfl (nB rfl) row_24 rfl ⟨Ext.refl _, fun _ => rfl⟩
 refine Ask.guarded (B := decide ((((keyPub seed h).2 : Nat) : Int) = ((0 : Nat) : Int))) (want := true) (t := 63) rfl rfl rfl rfl (by decide) (fun aq wq hO hR hT => hT 63 rfl rfl) (fun hG aq wq hNq hO hR hT => ?_) (fun hno _ => fun hc => absurd hc hno)
 exact does_loadD (o := 0) (n := 4) (mid := [w32 (msg).a, w32 (msg).b, w32 (msg).c, w32 (msg).d]) (oT hO s5_18 rfl) (B5_17.ext' hR) rfl rfl (nB rfl) row_24 rfl ⟨Ext.refl _, fun _ => rfl⟩
 refine Ask.guarded (B := decide ((((keyPub seed h).2 : Nat) : Int) = ((0 : Nat) : Int))) (want := true) (t := 63) rfl rfl rfl rfl (by decide) (fun aq wq hO hR hT => hT 63 rfl rfl) (fun hG aq wq hNq hO hR hT => ?_) (fun hno _ => fun hc => absurd hc hno)
 exact does_loadD (o := 0) (n := 3) (mid := [i64 ((keySign seed h i msg).1), x31_0_5, x31_1_5]) (oT hO s7_18 rfl) (B7_17.ext' hR) rfl rfl (nB rfl) row_30 rfl ⟨Ext.refl _, fun _ => rfl⟩
 refine Ask.guarded (B := decide ((((keyPub seed h).2 : Nat) : Int) = ((0 : Nat) : Int))) (want := true) (t := 63) rfl rfl rfl rfl (by decide) (fun aq wq hO hR hT => hT 63 rfl rfl) (fun hG aq wq hNq hO hR hT => ?_) (fun hno _ => fun hc => absurd hc hno)
 exact does_ret (vs := #[Dg.val ((keyPub seed h).1), Dg.val (msg), Value.agg #[i64 ((keySign seed h i msg).1), x31_0_5, x31_1_5]]) call_12 (args3 (hT 64 rfl rfl hG) (hT 65 rfl rfl hG) (hT 66 rfl rfl hG)) rfl ((keyCheck_ ((keyPub seed h).1) msg ((keySign seed h i msg).1) ((keySign seed h i msg).2.1) ((keySign seed h i msg).2.2.1) (x31_0_5) (x31_1_5) wq (hL.ext (E17.trans hR)) ((X31_0_5_17.ext' hR).wide (Nat.zero_le _) (.inl rfl)) ((X31_1_5_17.ext' hR).wide (Nat.zero_le _) (.inl rfl)) (Nat.le_trans keySign_len.1 (by decide)) (Nat.le_trans keySign_len.2 (by decide))).mono fun v w2 h => ⟨h.2, fun _ => h.1⟩)
 exact Ap fun aq wq _ hO hR hT => does_and (B := decide ((((keyPub seed h).2 : Nat) : Int) = ((0 : Nat) : Int))) (X := keyCheck ((keyPub seed h).1) msg ((keySign seed h i msg).1) ((keySign seed h i msg).2.1) ((keySign seed h i msg).2.2.1)) (hT 63 rfl rfl) (fun hB => (hT 67 rfl rfl hB)) rfl eR
 exact Ap fun aq wq _ hO hR hT => does_assign (V := Value.bool ((decide ((((keyPub seed h).2 : Nat) : Int) = ((0 : Nat) : Int))) && (keyCheck ((keyPub seed h).1) msg ((keySign seed h i msg).1) ((keySign seed h i msg).2.1) ((keySign seed h i msg).2.2.1)))) (hT 68 rfl rfl) eR
 intro a19 wd19 N19 D19 hO hR hA hU
 obtain ⟨_, _, _, _, _, _, _, _, t6, _⟩ := hA
 have E19 := E17.trans hR
 have B3_19 := B3_17.ext' hR
 have B4_19 := B4_17.ext' hR
 have B5_19 := B5_17.ext' hR
 have B7_19 := B7_17.ext' hR
 have B9_19 := B9_17.ext' hR
 have B11_19 := B11_17.ext' hR
 have X31_0_5_19 := X31_0_5_17.ext' hR
 have X31_1_5_19 := X31_1_5_17.ext' hR
 have X41_0_9_19 := X41_0_9_17.ext' hR
 have X41_1_9_19 := X41_1_9_17.ext' hR
 have O31_0_5_19 := O31_0_5_17.ext' hR
 have O31_1_5_19 := O31_1_5_17.ext' hR
 have O41_0_9_19 := O41_0_9_17.ext' hR
 have O41_1_9_19 := O41_1_9_17.ext' hR
 have s6_19 : get a19 6 = Value.bool ((decide ((((keyPub seed h).2 : Nat) : Int) = ((0 : Nat) : Int))) && (keyCheck ((keyPub seed h).1) msg ((keySign seed h i msg).1) ((keySign seed h i msg).2.1) ((keySign seed h i msg).2.2.1))) := t6
 clear E17 N18 D18 s5_18 s7_18 s11_18 s12_18 B3_17 B4_17 B5_17 B7_17 B9_17 B11_17 X31_0_5_17 X31_1_5_17 X41_0_9_17 X41_1_9_17 O31_0_5_17 O31_1_5_17 O41_0_9_17 O41_1_9_17
 refine tail_nil ?_
 refine wp_ret ?_
 refine res_one (V := Value.bool ((decide ((((keyPub seed h).2 : Nat) : Int) = ((0 : Nat) : Int))) && (keyCheck ((keyPub seed h).1) msg ((keySign seed h i msg).1) ((keySign seed h i msg).2.1) ((keySign seed h i msg).2.2.1)))) rfl D19 s6_19 ?_
 obtain ⟨n, rfl⟩ : ∃ n : Nat, h = n := ⟨h.toNat, by omega⟩
 obtain ⟨j, rfl⟩ : ∃ j : Nat, i = j := ⟨i.toNat, by omega⟩
 have hn4 : n ≤ 4 := by omega
 have hj : j < pw n := by have := hbi.2; rw [Int.toNat_natCast] at this; omega
 rw [keySign_ok hn4 hj, keyPub_ok hn4]
 exact ⟨congrArg Value.bool (by simp [keyCheck_sign hn4 hj]), E19⟩

end Go.Proofs.YtaeohnkfmachfaaDoor
