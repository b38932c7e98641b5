/- The walks of functions of the program: printed. -/
import Derived.Test.YtaeohnkfmachfabDoorKB
import Derived.Test.YtaeohnkfmachfabDoorG70
import Derived.Test.YtaeohnkfmachfabDoorG94
import Derived.Test.YtaeohnkfmachfabDoorG96
import Derived.Test.YtaeohnkfmachfabDoorG103
import Derived.Test.YtaeohnkfmachfabDoorG104
import Derived.Test.YtaeohnkfmachfabDoorG107
import Derived.Test.YtaeohnkfmachfabDoorF0
set_option maxRecDepth 100000
namespace Go.Proofs.YtaeohnkfmachfabDoor
open Go Go.RowKit Sk Sd
theorem call_7 : Callable Tryd.prog 7 := ⟨_, Tryd.func7, by kernel_rfl, rfl⟩
theorem call_11 : Callable Tryd.prog 11 := ⟨_, Tryd.func11, by kernel_rfl, rfl⟩
theorem call_12 : Callable Tryd.prog 12 := ⟨_, Tryd.func12, by kernel_rfl, rfl⟩
theorem eq_30 : EqIs Tryd.prog 30 Signer.val := eq_signer ⟨by kernel_rfl, by kernel_rfl, by kernel_rfl, by kernel_rfl⟩ Tryd.underlying3 dgis (by kernel_rfl)
theorem call_13 : Callable Tryd.prog 13 := ⟨_, Tryd.func13, by kernel_rfl, rfl⟩
theorem keysUses (seed : Dg) (h i : Int) (msg : Dg) (w0 : World) (hL : Laid w0) :
    Gives Tryd.prog 4 #[Value.agg #[w32 (seed).a, w32 (seed).b, w32 (seed).c, w32 (seed).d, i64 (h), i64 (i)], Dg.val (msg)] w0 (Pr.ex (Value.bool true)) := by
 refine enter (N := 80) Tryd.func4 rfl rfl ?_
 intro a0 N0 D0 hA
 have s0_0 : get a0 0 = Value.agg #[w32 (seed).a, w32 (seed).b, w32 (seed).c, w32 (seed).d, i64 (h), i64 (i)] := hA 0 _ rfl
 have s1_0 : get a0 1 = Dg.val (msg) := hA 1 _ rfl
 clear hA
 have E0 : Ext w0 w0 := Ext.refl w0
 refine wp_seq ?_
 refine Rl [2, 3] [(2, Pr.box' w0.heap.size 30 [w32 (seed).a, w32 (seed).b, w32 (seed).c, w32 (seed).d, i64 (h), i64 (i)]), (3, Pr.box' w0.heap.size 24 [w32 (msg).a, w32 (msg).b, w32 (msg).c, w32 (msg).d]), (4, Pr.ex (Value.bool (false)))] 3 N0 D0 ?_ ?_
 refine Ac ?_ (Ac ?_ (Ac ?_ (Az _)))
 refine Ask.fresh rfl rfl ?_
 intro aq wq hNq hO hR hT
 exact does_box (V := Value.agg #[w32 (seed).a, w32 (seed).b, w32 (seed).c, w32 (seed).d, i64 (h), i64 (i)]) (oT hO s0_0 rfl) (fun b w2 he hlo hb => ⟨he, ⟨b, rfl, Nat.le_trans hR.size' hlo, hb⟩, ⟨b, rfl, hlo, hb.lt⟩⟩)
 refine Ask.fresh rfl rfl ?_
 intro aq wq hNq hO hR hT
 exact does_box (V := Dg.val (msg)) (oT hO s1_0 rfl) (fun b w2 he hlo hb => ⟨he, ⟨b, rfl, Nat.le_trans hR.size' hlo, hb⟩, ⟨b, rfl, hlo, hb.lt⟩⟩)
 exact Ap fun aq wq _ hO hR hT => does_assign (V := Value.bool (false)) rfl eR
 intro a1 wd1 N1 D1 hO hR hA hU
 obtain ⟨t2, t3, _, _⟩ := hA
 have E1 := E0.trans hR
 obtain ⟨b2, s2_1, lo_b2, B2_1⟩ := t2
 have fr_b2 : w0.heap.size ≤ b2 := Nat.le_trans E0.size' lo_b2
 obtain ⟨b3, s3_1, lo_b3, B3_1⟩ := t3
 have fr_b3 : w0.heap.size ≤ b3 := Nat.le_trans E0.size' lo_b3
 obtain ⟨u0, ⟨u1, _⟩⟩ := hU
 have ne_b2_b3 : b2 ≠ b3 := fun e => u0 3 (by decide) (by rw [s2_1, s3_1, e])
 clear E0 N0 D0 s0_0 s1_0
 refine tail_nil ?_
 refine wp_seq ?_
 refine wp_seq ?_
 refine Rl [] [(13, Pr.ex (Value.bool (true))), (14, Pr.ex (Value.bool (false)))] 2 N1 D1 ?_ ?_
 refine Ac ?_ (Ac ?_ (Az _))
 exact Ap fun aq wq _ hO hR hT => does_ret (vs := #[]) call_7 args0 rfl ((awake06 wq (hL.ext (E1.trans hR))).mono fun v w2 h => ⟨h.2, h.1⟩)
 exact Ap fun aq wq _ hO hR hT => does_not (B := true) (hT 13 rfl rfl) eR
 intro a2 wd2 N2 D2 hO hR hA hU
 obtain ⟨_, t14, _⟩ := hA
 have E2 := E1.trans hR
 have s2_2 := oT hO s2_1 rfl
 have s3_2 := oT hO s3_1 rfl
 have B2_2 := B2_1.ext' hR
 have B3_2 := B3_1.ext' hR
 have s14_2 : get a2 14 = Value.bool (false) := t14
 clear E1 N1 D1 s2_1 s3_1 B2_1 B3_1
 refine tail_nil ?_
 refine wp_ifF s14_2 ?_
 refine wp_skip ?_
 refine wp_seq ?_
 refine wp_seq ?_
 refine Rl [] [(15, Pr.ex (Value.pointer (some ⟨b2, 4, none⟩))), (16, Pr.ex (i64 (h))), (17, Pr.ex (Value.bool (decide (h = ((3 : Nat) : Int))))), (18, Pr.ex (Value.bool (decide (h = ((3 : Nat) : Int))))), (19, Pr.ifb (!(decide (h = ((3 : Nat) : Int)))) (Pr.ex (Value.pointer (some ⟨b2, 4, none⟩)))), (20, Pr.ifb (!(decide (h = ((3 : Nat) : Int)))) (Pr.ex (i64 (h)))), (21, Pr.ifb (!(decide (h = ((3 : Nat) : Int)))) (Pr.ex (Value.bool (decide (h = ((4 : Nat) : Int)))))), (22, Pr.ex (Value.bool ((decide (h = ((3 : Nat) : Int))) || (decide (h = ((4 : Nat) : Int))))))] 8 N2 D2 ?_ ?_
 refine Ac ?_ (Ac ?_ (Ac ?_ (Ac ?_ (Ac ?_ (Ac ?_ (Ac ?_ (Ac ?_ (Az _))))))))
 exact Ap fun aq wq _ hO hR hT => does_field (o' := 4) fld_30_1 (oT hO s2_2 rfl) rfl eR
 exact Ap fun aq wq _ hO hR hT => does_loadD1 (o := 4) (V := i64 (h)) (hT 15 rfl rfl) (B2_2.ext' hR) rfl one_3 eR
 exact Ap fun aq wq _ hO hR hT => does_eql (a := h) (b := ((3 : Nat) : Int)) (hT 16 rfl rfl) rfl eR
 exact Ap fun aq wq _ hO hR hT => does_move (V := Value.bool (decide (h = ((3 : Nat) : Int)))) (hT 17 rfl rfl) eR
 refine Ask.guarded (B := decide (h = ((3 : Nat) : Int))) (want := false) (t := 18) rfl rfl rfl rfl (by decide) (fun aq wq hO hR hT => hT 18 rfl rfl) (fun hG aq wq hNq hO hR hT => ?_) (fun hno _ => fun hc => absurd (bn hc) hno)
 replace hG := nb hG
 exact does_field (o' := 4) fld_30_1 (oT hO s2_2 rfl) rfl ⟨Ext.refl _, fun _ => rfl⟩
 refine Ask.guarded (B := decide (h = ((3 : Nat) : Int))) (want := false) (t := 18) rfl rfl rfl rfl (by decide) (fun aq wq hO hR hT => hT 18 rfl rfl) (fun hG aq wq hNq hO hR hT => ?_) (fun hno _ => fun hc => absurd (bn hc) hno)
 replace hG := nb hG
 exact does_loadD1 (o := 4) (V := i64 (h)) (hT 19 rfl rfl hG) (B2_2.ext' hR) rfl one_3 ⟨Ext.refl _, fun _ => rfl⟩
 refine Ask.guarded (B := decide (h = ((3 : Nat) : Int))) (want := false) (t := 18) rfl rfl rfl rfl (by decide) (fun aq wq hO hR hT => hT 18 rfl rfl) (fun hG aq wq hNq hO hR hT => ?_) (fun hno _ => fun hc => absurd (bn hc) hno)
 replace hG := nb hG
 exact does_eql (a := h) (b := ((4 : Nat) : Int)) (hT 20 rfl rfl hG) rfl ⟨Ext.refl _, fun _ => rfl⟩
 exact Ap fun aq wq _ hO hR hT => does_or (B := decide (h = ((3 : Nat) : Int))) (X := decide (h = ((4 : Nat) : Int))) (hT 18 rfl rfl) rfl (fun hB => (hT 21 rfl rfl (nb hB))) eR
 intro a3 wd3 N3 D3 hO hR hA hU
 obtain ⟨_, _, _, _, _, _, _, t22, _⟩ := hA
 have E3 := E2.trans hR
 have s2_3 := oT hO s2_2 rfl
 have s3_3 := oT hO s3_2 rfl
 have B2_3 := B2_2.ext' hR
 have B3_3 := B3_2.ext' hR
 have s22_3 : get a3 22 = Value.bool ((decide (h = ((3 : Nat) : Int))) || (decide (h = ((4 : Nat) : Int)))) := t22
 clear E2 N2 D2 s2_2 s3_2 s14_2 B2_2 B3_2
 refine tail_nil ?_
 refine wp_if (B := (decide (h = ((3 : Nat) : Int))) || (decide (h = ((4 : Nat) : Int)))) s22_3 (fun hc0 => ?_) (fun hc0 => ?_)
 refine wp_seq ?_
 refine Rl [] [(4, Pr.ex (Value.bool (true)))] 1 N3 D3 ?_ ?_
 refine Ac ?_ (Az _)
 exact Ap fun aq wq _ hO hR hT => does_assign (V := Value.bool (true)) rfl eR
 intro a4 wd4 N4 D4 hO hR hA hU
 obtain ⟨t4, _⟩ := hA
 have E4 := E3.trans hR
 have B2_4 := B2_3.ext' hR
 have B3_4 := B3_3.ext' hR
 have s4_4 : get a4 4 = Value.bool (true) := t4
 clear E3 N3 D3 s2_3 s3_3 s22_3 B2_3 B3_3
 refine tail_nil ?_
 refine wp_ret ?_
 refine res_one (V := Value.bool (true)) rfl D4 s4_4 ?_
 exact ⟨rfl, E4⟩
 refine wp_skip ?_
 refine wp_seq ?_
 refine Rl [] [(24, Pr.ex (Value.agg #[w32 (seed).a, w32 (seed).b, w32 (seed).c, w32 (seed).d, i64 (h), i64 (i)])), (25, Pr.ex (Dg.val (msg))), (26, Pr.t3 (Pr.ex (Value.agg #[w32 ((keyUse seed h i msg).1).a, w32 ((keyUse seed h i msg).1).b, w32 ((keyUse seed h i msg).1).c, w32 ((keyUse seed h i msg).1).d, i64 ((keyUse seed h i msg).2.1), i64 ((keyUse seed h i msg).2.2.1)])) (Pr.ag2 (fun x y => Value.agg #[i64 ((keyUse seed h i msg).2.2.2.1), x, y]) (Pr.own' DG wd3.heap.size 24 ((keyUse seed h i msg).2.2.2.2.1)) (Pr.own' DG wd3.heap.size 24 ((keyUse seed h i msg).2.2.2.2.2.1))) (Pr.ex (i64 (((keyUse seed h i msg).2.2.2.2.2.2 : Nat) : Int)))), (23, Pr.t3 (Pr.ex (Value.agg #[w32 ((keyUse seed h i msg).1).a, w32 ((keyUse seed h i msg).1).b, w32 ((keyUse seed h i msg).1).c, w32 ((keyUse seed h i msg).1).d, i64 ((keyUse seed h i msg).2.1), i64 ((keyUse seed h i msg).2.2.1)])) (Pr.ag2 (fun x y => Value.agg #[i64 ((keyUse seed h i msg).2.2.2.1), x, y]) (Pr.own' DG wd3.heap.size 24 ((keyUse seed h i msg).2.2.2.2.1)) (Pr.own' DG wd3.heap.size 24 ((keyUse seed h i msg).2.2.2.2.2.1))) (Pr.ex (i64 (((keyUse seed h i msg).2.2.2.2.2.2 : Nat) : Int)))), (27, Pr.ex (Value.agg #[w32 ((keyUse seed h i msg).1).a, w32 ((keyUse seed h i msg).1).b, w32 ((keyUse seed h i msg).1).c, w32 ((keyUse seed h i msg).1).d, i64 ((keyUse seed h i msg).2.1), i64 ((keyUse seed h i msg).2.2.1)])), (28, Pr.ag2 (fun x y => Value.agg #[i64 ((keyUse seed h i msg).2.2.2.1), x, y]) (Pr.own' DG wd3.heap.size 24 ((keyUse seed h i msg).2.2.2.2.1)) (Pr.own' DG wd3.heap.size 24 ((keyUse seed h i msg).2.2.2.2.2.1))), (29, Pr.ex (i64 (((keyUse seed h i msg).2.2.2.2.2.2 : Nat) : Int)))] 7 N3 D3 ?_ ?_
 refine Ac ?_ (Ac ?_ (Ac ?_ (Ac ?_ (Ac ?_ (Ac ?_ (Ac ?_ (Az _)))))))
 exact Ap fun aq wq _ hO hR hT => does_loadD (o := 0) (n := 6) (mid := [w32 (seed).a, w32 (seed).b, w32 (seed).c, w32 (seed).d, i64 (h), i64 (i)]) (oT hO s2_3 rfl) (B2_3.ext' hR) rfl rfl (nB rfl) row_30 rfl eR
 exact Ap fun aq wq _ hO hR hT => does_loadD (o := 0) (n := 4) (mid := [w32 (msg).a, w32 (msg).b, w32 (msg).c, w32 (msg).d]) (oT hO s3_3 rfl) (B3_3.ext' hR) rfl rfl (nB rfl) row_24 rfl eR
 exact Ap fun aq wq _ hO hR hT => does_ret (vs := #[Value.agg #[w32 (seed).a, w32 (seed).b, w32 (seed).c, w32 (seed).d, i64 (h), i64 (i)], Dg.val (msg)]) call_11 (args2 (hT 24 rfl rfl) (hT 25 rfl rfl)) rfl ((keyUse_ seed h i msg wq (hL.ext (E3.trans hR))).mono fun v w2 h => ⟨h.2, by obtain ⟨x0, x1, x2, hv, k0, k1, k2⟩ := h.1; exact ⟨x0, x1, x2, hv, k0, (by obtain ⟨z0, z1, hz, kz0, kz1⟩ := k1; exact ⟨z0, z1, hz, OwnT.base kz0 hR.size', OwnT.base kz1 hR.size'⟩), k2⟩⟩)
 exact Ap fun aq wq _ hO hR hT => does_move rfl ⟨Ext.refl _, (hT 26 rfl rfl)⟩
 exact Ap fun aq wq _ hO hR hT => by
  obtain ⟨x0, x1, x2, hv, k0, k1, k2⟩ := (hT 23 rfl rfl)
  exact does_extract (V := Value.agg #[w32 ((keyUse seed h i msg).1).a, w32 ((keyUse seed h i msg).1).b, w32 ((keyUse seed h i msg).1).c, w32 ((keyUse seed h i msg).1).d, i64 ((keyUse seed h i msg).2.1), i64 ((keyUse seed h i msg).2.2.1)]) hv (by rw [show x0 = Value.agg #[w32 ((keyUse seed h i msg).1).a, w32 ((keyUse seed h i msg).1).b, w32 ((keyUse seed h i msg).1).c, w32 ((keyUse seed h i msg).1).d, i64 ((keyUse seed h i msg).2.1), i64 ((keyUse seed h i msg).2.2.1)] from k0]; rfl) ⟨Ext.refl _, rfl⟩
 exact Ap fun aq wq _ hO hR hT => by
  obtain ⟨x0, x1, x2, hv, k0, k1, k2⟩ := (hT 23 rfl rfl)
  exact does_extract hv rfl ⟨Ext.refl _, k1⟩
 exact Ap fun aq wq _ hO hR hT => by
  obtain ⟨x0, x1, x2, hv, k0, k1, k2⟩ := (hT 23 rfl rfl)
  exact does_extract (V := i64 (((keyUse seed h i msg).2.2.2.2.2.2 : Nat) : Int)) hv (by rw [show x2 = i64 (((keyUse seed h i msg).2.2.2.2.2.2 : Nat) : Int) from k2]; rfl) ⟨Ext.refl _, rfl⟩
 intro a5 wd5 N5 D5 hO hR hA hU
 obtain ⟨_, _, _, _, t27, t28, t29, _⟩ := hA
 have E5 := E3.trans hR
 have s2_5 := oT hO s2_3 rfl
 have s3_5 := oT hO s3_3 rfl
 have B2_5 := B2_3.ext' hR
 have B3_5 := B3_3.ext' hR
 have s27_5 : get a5 27 = Value.agg #[w32 ((keyUse seed h i msg).1).a, w32 ((keyUse seed h i msg).1).b, w32 ((keyUse seed h i msg).1).c, w32 ((keyUse seed h i msg).1).d, i64 ((keyUse seed h i msg).2.1), i64 ((keyUse seed h i msg).2.2.1)] := t27
 obtain ⟨x28_0_5, x28_1_5, s28_5, ky28_0_5, ky28_1_5⟩ := t28
 replace ky28_0_5 : OwnT DG wd3.heap.size 24 ((keyUse seed h i msg).2.2.2.2.1) x28_0_5 wd5 := ky28_0_5
 have nbo_x28_0_5_b2 := Ob1 ky28_0_5 B2_3
 have nbo_x28_0_5_b3 := Ob1 ky28_0_5 B3_3
 have X28_0_5_5 := ky28_0_5.sl.wide (Nat.zero_le _) (.inl rfl)
 have O28_0_5_5 := OwnT.base ky28_0_5 E3.size'
 replace ky28_1_5 : OwnT DG wd3.heap.size 24 ((keyUse seed h i msg).2.2.2.2.2.1) x28_1_5 wd5 := ky28_1_5
 have nbo_x28_1_5_b2 := Ob1 ky28_1_5 B2_3
 have nbo_x28_1_5_b3 := Ob1 ky28_1_5 B3_3
 have X28_1_5_5 := ky28_1_5.sl.wide (Nat.zero_le _) (.inl rfl)
 have O28_1_5_5 := OwnT.base ky28_1_5 E3.size'
 have s29_5 : get a5 29 = i64 (((keyUse seed h i msg).2.2.2.2.2.2 : Nat) : Int) := t29
 clear E3 N3 D3 s2_3 s3_3 s22_3 B2_3 B3_3
 refine tail_put rfl rfl N5 D5 (by decide) (does_alloc zero_30 (fun b5 wd6 he lo_b5 B5_6 => fun a6 N6 D6 hv hO => ?_))
 have s5_6 := hv
 have E6 := E5.trans he
 have B2_6 := B2_5.ext' he
 have B3_6 := B3_5.ext' he
 have X28_0_5_6 := X28_0_5_5.ext' he
 have X28_1_5_6 := X28_1_5_5.ext' he
 have O28_0_5_6 := O28_0_5_5.ext' he
 have O28_1_5_6 := O28_1_5_5.ext' he
 have fr_b5 : w0.heap.size ≤ b5 := Nat.le_trans E5.size' lo_b5
 have ne_b2_b5 := Hl B2_5 lo_b5
 have ne_b3_b5 := Hl B3_5 lo_b5
 have nb_x28_0_5_b5 := SlT.old X28_0_5_5 lo_b5
 have nb_x28_1_5_b5 := SlT.old X28_1_5_5 lo_b5
 have nbo_x28_0_5_b5 := Ol O28_0_5_5 lo_b5
 have nbo_x28_1_5_b5 := Ol O28_1_5_5 lo_b5
 have s2_6 := oT hO s2_5 rfl
 have s3_6 := oT hO s3_5 rfl
 have s27_6 := oT hO s27_5 rfl
 have s28_6 := oT hO s28_5 rfl
 have s29_6 := oT hO s29_5 rfl
 clear hO hv N5 D5 E5 B2_5 B3_5 X28_0_5_5 X28_1_5_5 O28_0_5_5 O28_1_5_5 s2_5 s3_5 s27_5 s28_5 s29_5
 refine tail_put rfl rfl N6 D6 (by decide) (does_alloc zero_37 (fun b6 wd7 he lo_b6 B6_7 => fun a7 N7 D7 hv hO => ?_))
 have s6_7 := hv
 have E7 := E6.trans he
 have B2_7 := B2_6.ext' he
 have B3_7 := B3_6.ext' he
 have B5_7 := B5_6.ext' he
 have X28_0_5_7 := X28_0_5_6.ext' he
 have X28_1_5_7 := X28_1_5_6.ext' he
 have O28_0_5_7 := O28_0_5_6.ext' he
 have O28_1_5_7 := O28_1_5_6.ext' he
 have fr_b6 : w0.heap.size ≤ b6 := Nat.le_trans E6.size' lo_b6
 have ne_b2_b6 := Hl B2_6 lo_b6
 have ne_b3_b6 := Hl B3_6 lo_b6
 have ne_b5_b6 := Hl B5_6 lo_b6
 have nb_x28_0_5_b6 := SlT.old X28_0_5_6 lo_b6
 have nb_x28_1_5_b6 := SlT.old X28_1_5_6 lo_b6
 have nbo_x28_0_5_b6 := Ol O28_0_5_6 lo_b6
 have nbo_x28_1_5_b6 := Ol O28_1_5_6 lo_b6
 have s2_7 := oT hO s2_6 rfl
 have s3_7 := oT hO s3_6 rfl
 have s5_7 := oT hO s5_6 rfl
 have s27_7 := oT hO s27_6 rfl
 have s28_7 := oT hO s28_6 rfl
 have s29_7 := oT hO s29_6 rfl
 clear hO hv N6 D6 E6 B2_6 B3_6 B5_6 X28_0_5_6 X28_1_5_6 O28_0_5_6 O28_1_5_6 s2_6 s3_6 s5_6 s27_6 s28_6 s29_6
 refine tail_none rfl rfl (does_storeD (o := 0) (n := 6) (cs' := [w32 ((keyUse seed h i msg).1).a, w32 ((keyUse seed h i msg).1).b, w32 ((keyUse seed h i msg).1).c, w32 ((keyUse seed h i msg).1).d, i64 ((keyUse seed h i msg).2.1), i64 ((keyUse seed h i msg).2.2.1)]) (V := Value.agg #[w32 ((keyUse seed h i msg).1).a, w32 ((keyUse seed h i msg).1).b, w32 ((keyUse seed h i msg).1).c, w32 ((keyUse seed h i msg).1).d, i64 ((keyUse seed h i msg).2.1), i64 ((keyUse seed h i msg).2.2.1)]) s5_7 s27_7 B5_7 (nB rfl) rfl siz_30 rfl rfl (fun wd8 hX hz B5_8 => ?_))
 have E8 := E7.since hX (fun k e => e ▸ fr_b5)
 have B2_8 := B2_7.ext hX ne_b2_b5
 have B3_8 := B3_7.ext hX ne_b3_b5
 have B6_8 := B6_7.ext hX ne_b5_b6.symm
 have X28_0_5_8 := SlT.over X28_0_5_7 hX nb_x28_0_5_b5
 have X28_1_5_8 := SlT.over X28_1_5_7 hX nb_x28_1_5_b5
 have O28_0_5_8 := OwnT.ext O28_0_5_7 hX (fun k hk e => nbo_x28_0_5_b5 (e ▸ hk))
 have O28_1_5_8 := OwnT.ext O28_1_5_7 hX (fun k hk e => nbo_x28_1_5_b5 (e ▸ hk))
 clear hX hz E7 B2_7 B3_7 B5_7 B6_7 X28_0_5_7 X28_1_5_7 O28_0_5_7 O28_1_5_7
 refine tail_none rfl rfl (does_storeD (o := 0) (n := 3) (cs' := [i64 ((keyUse seed h i msg).2.2.2.1), x28_0_5, x28_1_5]) (V := Value.agg #[i64 ((keyUse seed h i msg).2.2.2.1), x28_0_5, x28_1_5]) s6_7 s28_7 B6_8 (nB rfl) rfl siz_37 (one_cons rfl (one_cons (SlT.one X28_0_5_8) (one_cons (SlT.one X28_1_5_8) one_nil))) rfl (fun wd9 hX hz B6_9 => ?_))
 have E9 := E8.since hX (fun k e => e ▸ fr_b6)
 have B2_9 := B2_8.ext hX ne_b2_b6
 have B3_9 := B3_8.ext hX ne_b3_b6
 have B5_9 := B5_8.ext hX ne_b5_b6
 have X28_0_5_9 := SlT.over X28_0_5_8 hX nb_x28_0_5_b6
 have X28_1_5_9 := SlT.over X28_1_5_8 hX nb_x28_1_5_b6
 have O28_0_5_9 := OwnT.ext O28_0_5_8 hX (fun k hk e => nbo_x28_0_5_b6 (e ▸ hk))
 have O28_1_5_9 := OwnT.ext O28_1_5_8 hX (fun k hk e => nbo_x28_1_5_b6 (e ▸ hk))
 clear hX hz E8 B2_8 B3_8 B5_8 B6_8 X28_0_5_8 X28_1_5_8 O28_0_5_8 O28_1_5_8
 refine tail_put rfl rfl N7 D7 (by decide) (does_assign (V := i64 (((keyUse seed h i msg).2.2.2.2.2.2 : Nat) : Int)) s29_7 (fun a10 N10 D10 hv hO => ?_))
 have s7_10 := hv
 have s2_10 := oT hO s2_7 rfl
 have s3_10 := oT hO s3_7 rfl
 have s5_10 := oT hO s5_7 rfl
 have s6_10 := oT hO s6_7 rfl
 clear hO hv N7 D7 s2_7 s3_7 s5_7 s6_7 s27_7 s28_7 s29_7
 refine tail_nil ?_
 refine wp_seq ?_
 refine Rl [] [(31, Pr.ex (Value.agg #[w32 (seed).a, w32 (seed).b, w32 (seed).c, w32 (seed).d, i64 (h), i64 (i)])), (32, Pr.ex (Dg.val (msg))), (33, Pr.t3 (Pr.ex (Value.agg #[w32 ((keyUse seed h i msg).1).a, w32 ((keyUse seed h i msg).1).b, w32 ((keyUse seed h i msg).1).c, w32 ((keyUse seed h i msg).1).d, i64 ((keyUse seed h i msg).2.1), i64 ((keyUse seed h i msg).2.2.1)])) (Pr.ag2 (fun x y => Value.agg #[i64 ((keyUse seed h i msg).2.2.2.1), x, y]) (Pr.own' DG wd9.heap.size 24 ((keyUse seed h i msg).2.2.2.2.1)) (Pr.own' DG wd9.heap.size 24 ((keyUse seed h i msg).2.2.2.2.2.1))) (Pr.ex (i64 (((keyUse seed h i msg).2.2.2.2.2.2 : Nat) : Int)))), (30, Pr.t3 (Pr.ex (Value.agg #[w32 ((keyUse seed h i msg).1).a, w32 ((keyUse seed h i msg).1).b, w32 ((keyUse seed h i msg).1).c, w32 ((keyUse seed h i msg).1).d, i64 ((keyUse seed h i msg).2.1), i64 ((keyUse seed h i msg).2.2.1)])) (Pr.ag2 (fun x y => Value.agg #[i64 ((keyUse seed h i msg).2.2.2.1), x, y]) (Pr.own' DG wd9.heap.size 24 ((keyUse seed h i msg).2.2.2.2.1)) (Pr.own' DG wd9.heap.size 24 ((keyUse seed h i msg).2.2.2.2.2.1))) (Pr.ex (i64 (((keyUse seed h i msg).2.2.2.2.2.2 : Nat) : Int)))), (34, Pr.ex (Value.agg #[w32 ((keyUse seed h i msg).1).a, w32 ((keyUse seed h i msg).1).b, w32 ((keyUse seed h i msg).1).c, w32 ((keyUse seed h i msg).1).d, i64 ((keyUse seed h i msg).2.1), i64 ((keyUse seed h i msg).2.2.1)])), (35, Pr.ag2 (fun x y => Value.agg #[i64 ((keyUse seed h i msg).2.2.2.1), x, y]) (Pr.own' DG wd9.heap.size 24 ((keyUse seed h i msg).2.2.2.2.1)) (Pr.own' DG wd9.heap.size 24 ((keyUse seed h i msg).2.2.2.2.2.1))), (36, Pr.ex (i64 (((keyUse seed h i msg).2.2.2.2.2.2 : Nat) : Int)))] 7 N10 D10 ?_ ?_
 refine Ac ?_ (Ac ?_ (Ac ?_ (Ac ?_ (Ac ?_ (Ac ?_ (Ac ?_ (Az _)))))))
 exact Ap fun aq wq _ hO hR hT => does_loadD (o := 0) (n := 6) (mid := [w32 (seed).a, w32 (seed).b, w32 (seed).c, w32 (seed).d, i64 (h), i64 (i)]) (oT hO s2_10 rfl) (B2_9.ext' hR) rfl rfl (nB rfl) row_30 rfl eR
 exact Ap fun aq wq _ hO hR hT => does_loadD (o := 0) (n := 4) (mid := [w32 (msg).a, w32 (msg).b, w32 (msg).c, w32 (msg).d]) (oT hO s3_10 rfl) (B3_9.ext' hR) rfl rfl (nB rfl) row_24 rfl eR
 exact Ap fun aq wq _ hO hR hT => does_ret (vs := #[Value.agg #[w32 (seed).a, w32 (seed).b, w32 (seed).c, w32 (seed).d, i64 (h), i64 (i)], Dg.val (msg)]) call_12 (args2 (hT 31 rfl rfl) (hT 32 rfl rfl)) rfl ((keyUseR seed h i msg wq).mono fun v w2 h => ⟨h.2, by obtain ⟨x0, x1, x2, hv, k0, k1, k2⟩ := h.1; exact ⟨x0, x1, x2, hv, k0, (by obtain ⟨z0, z1, hz, kz0, kz1⟩ := k1; exact ⟨z0, z1, hz, OwnT.base kz0 hR.size', OwnT.base kz1 hR.size'⟩), k2⟩⟩)
 exact Ap fun aq wq _ hO hR hT => does_move rfl ⟨Ext.refl _, (hT 33 rfl rfl)⟩
 exact Ap fun aq wq _ hO hR hT => by
  obtain ⟨x0, x1, x2, hv, k0, k1, k2⟩ := (hT 30 rfl rfl)
  exact does_extract (V := Value.agg #[w32 ((keyUse seed h i msg).1).a, w32 ((keyUse seed h i msg).1).b, w32 ((keyUse seed h i msg).1).c, w32 ((keyUse seed h i msg).1).d, i64 ((keyUse seed h i msg).2.1), i64 ((keyUse seed h i msg).2.2.1)]) hv (by rw [show x0 = Value.agg #[w32 ((keyUse seed h i msg).1).a, w32 ((keyUse seed h i msg).1).b, w32 ((keyUse seed h i msg).1).c, w32 ((keyUse seed h i msg).1).d, i64 ((keyUse seed h i msg).2.1), i64 ((keyUse seed h i msg).2.2.1)] from k0]; rfl) ⟨Ext.refl _, rfl⟩
 exact Ap fun aq wq _ hO hR hT => by
  obtain ⟨x0, x1, x2, hv, k0, k1, k2⟩ := (hT 30 rfl rfl)
  exact does_extract hv rfl ⟨Ext.refl _, k1⟩
 exact Ap fun aq wq _ hO hR hT => by
  obtain ⟨x0, x1, x2, hv, k0, k1, k2⟩ := (hT 30 rfl rfl)
  exact does_extract (V := i64 (((keyUse seed h i msg).2.2.2.2.2.2 : Nat) : Int)) hv (by rw [show x2 = i64 (((keyUse seed h i msg).2.2.2.2.2.2 : Nat) : Int) from k2]; rfl) ⟨Ext.refl _, rfl⟩
 intro a11 wd11 N11 D11 hO hR hA hU
 obtain ⟨_, _, _, _, t34, t35, t36, _⟩ := hA
 have E11 := E9.trans hR
 have s2_11 := oT hO s2_10 rfl
 have s3_11 := oT hO s3_10 rfl
 have s5_11 := oT hO s5_10 rfl
 have s6_11 := oT hO s6_10 rfl
 have s7_11 := oT hO s7_10 rfl
 have B2_11 := B2_9.ext' hR
 have B3_11 := B3_9.ext' hR
 have B5_11 := B5_9.ext' hR
 have B6_11 := B6_9.ext' hR
 have X28_0_5_11 := X28_0_5_9.ext' hR
 have X28_1_5_11 := X28_1_5_9.ext' hR
 have O28_0_5_11 := O28_0_5_9.ext' hR
 have O28_1_5_11 := O28_1_5_9.ext' hR
 have s34_11 : get a11 34 = Value.agg #[w32 ((keyUse seed h i msg).1).a, w32 ((keyUse seed h i msg).1).b, w32 ((keyUse seed h i msg).1).c, w32 ((keyUse seed h i msg).1).d, i64 ((keyUse seed h i msg).2.1), i64 ((keyUse seed h i msg).2.2.1)] := t34
 obtain ⟨x35_0_11, x35_1_11, s35_11, ky35_0_11, ky35_1_11⟩ := t35
 replace ky35_0_11 : OwnT DG wd9.heap.size 24 ((keyUse seed h i msg).2.2.2.2.1) x35_0_11 wd11 := ky35_0_11
 have nbo_x35_0_11_b2 := Ob1 ky35_0_11 B2_9
 have nbo_x35_0_11_b3 := Ob1 ky35_0_11 B3_9
 have nbo_x35_0_11_b5 := Ob1 ky35_0_11 B5_9
 have nbo_x35_0_11_b6 := Ob1 ky35_0_11 B6_9
 have no_x35_0_11_x28_0_5 := Oo ky35_0_11 O28_0_5_9
 have no_x35_0_11_x28_1_5 := Oo ky35_0_11 O28_1_5_9
 have X35_0_11_11 := ky35_0_11.sl.wide (Nat.zero_le _) (.inl rfl)
 have O35_0_11_11 := OwnT.base ky35_0_11 E9.size'
 replace ky35_1_11 : OwnT DG wd9.heap.size 24 ((keyUse seed h i msg).2.2.2.2.2.1) x35_1_11 wd11 := ky35_1_11
 have nbo_x35_1_11_b2 := Ob1 ky35_1_11 B2_9
 have nbo_x35_1_11_b3 := Ob1 ky35_1_11 B3_9
 have nbo_x35_1_11_b5 := Ob1 ky35_1_11 B5_9
 have nbo_x35_1_11_b6 := Ob1 ky35_1_11 B6_9
 have no_x35_1_11_x28_0_5 := Oo ky35_1_11 O28_0_5_9
 have no_x35_1_11_x28_1_5 := Oo ky35_1_11 O28_1_5_9
 have X35_1_11_11 := ky35_1_11.sl.wide (Nat.zero_le _) (.inl rfl)
 have O35_1_11_11 := OwnT.base ky35_1_11 E9.size'
 have s36_11 : get a11 36 = i64 (((keyUse seed h i msg).2.2.2.2.2.2 : Nat) : Int) := t36
 clear E9 N10 D10 s2_10 s3_10 s5_10 s6_10 s7_10 B2_9 B3_9 B5_9 B6_9 X28_0_5_9 X28_1_5_9 O28_0_5_9 O28_1_5_9
 refine tail_put rfl rfl N11 D11 (by decide) (does_alloc zero_30 (fun b8 wd12 he lo_b8 B8_12 => fun a12 N12 D12 hv hO => ?_))
 have s8_12 := hv
 have E12 := E11.trans he
 have B2_12 := B2_11.ext' he
 have B3_12 := B3_11.ext' he
 have B5_12 := B5_11.ext' he
 have B6_12 := B6_11.ext' he
 have X28_0_5_12 := X28_0_5_11.ext' he
 have X28_1_5_12 := X28_1_5_11.ext' he
 have X35_0_11_12 := X35_0_11_11.ext' he
 have X35_1_11_12 := X35_1_11_11.ext' he
 have O28_0_5_12 := O28_0_5_11.ext' he
 have O28_1_5_12 := O28_1_5_11.ext' he
 have O35_0_11_12 := O35_0_11_11.ext' he
 have O35_1_11_12 := O35_1_11_11.ext' he
 have fr_b8 : w0.heap.size ≤ b8 := Nat.le_trans E11.size' lo_b8
 have ne_b2_b8 := Hl B2_11 lo_b8
 have ne_b3_b8 := Hl B3_11 lo_b8
 have ne_b5_b8 := Hl B5_11 lo_b8
 have ne_b6_b8 := Hl B6_11 lo_b8
 have nb_x28_0_5_b8 := SlT.old X28_0_5_11 lo_b8
 have nb_x28_1_5_b8 := SlT.old X28_1_5_11 lo_b8
 have nb_x35_0_11_b8 := SlT.old X35_0_11_11 lo_b8
 have nb_x35_1_11_b8 := SlT.old X35_1_11_11 lo_b8
 have nbo_x28_0_5_b8 := Ol O28_0_5_11 lo_b8
 have nbo_x28_1_5_b8 := Ol O28_1_5_11 lo_b8
 have nbo_x35_0_11_b8 := Ol O35_0_11_11 lo_b8
 have nbo_x35_1_11_b8 := Ol O35_1_11_11 lo_b8
 have s2_12 := oT hO s2_11 rfl
 have s3_12 := oT hO s3_11 rfl
 have s5_12 := oT hO s5_11 rfl
 have s6_12 := oT hO s6_11 rfl
 have s7_12 := oT hO s7_11 rfl
 have s34_12 := oT hO s34_11 rfl
 have s35_12 := oT hO s35_11 rfl
 have s36_12 := oT hO s36_11 rfl
 clear hO hv N11 D11 E11 B2_11 B3_11 B5_11 B6_11 X28_0_5_11 X28_1_5_11 X35_0_11_11 X35_1_11_11 O28_0_5_11 O28_1_5_11 O35_0_11_11 O35_1_11_11 s2_11 s3_11 s5_11 s6_11 s7_11 s34_11 s35_11 s36_11
 refine tail_put rfl rfl N12 D12 (by decide) (does_alloc zero_37 (fun b9 wd13 he lo_b9 B9_13 => fun a13 N13 D13 hv hO => ?_))
 have s9_13 := hv
 have E13 := E12.trans he
 have B2_13 := B2_12.ext' he
 have B3_13 := B3_12.ext' he
 have B5_13 := B5_12.ext' he
 have B6_13 := B6_12.ext' he
 have B8_13 := B8_12.ext' he
 have X28_0_5_13 := X28_0_5_12.ext' he
 have X28_1_5_13 := X28_1_5_12.ext' he
 have X35_0_11_13 := X35_0_11_12.ext' he
 have X35_1_11_13 := X35_1_11_12.ext' he
 have O28_0_5_13 := O28_0_5_12.ext' he
 have O28_1_5_13 := O28_1_5_12.ext' he
 have O35_0_11_13 := O35_0_11_12.ext' he
 have O35_1_11_13 := O35_1_11_12.ext' he
 have fr_b9 : w0.heap.size ≤ b9 := Nat.le_trans E12.size' lo_b9
 have ne_b2_b9 := Hl B2_12 lo_b9
 have ne_b3_b9 := Hl B3_12 lo_b9
 have ne_b5_b9 := Hl B5_12 lo_b9
 have ne_b6_b9 := Hl B6_12 lo_b9
 have ne_b8_b9 := Hl B8_12 lo_b9
 have nb_x28_0_5_b9 := SlT.old X28_0_5_12 lo_b9
 have nb_x28_1_5_b9 := SlT.old X28_1_5_12 lo_b9
 have nb_x35_0_11_b9 := SlT.old X35_0_11_12 lo_b9
 have nb_x35_1_11_b9 := SlT.old X35_1_11_12 lo_b9
 have nbo_x28_0_5_b9 := Ol O28_0_5_12 lo_b9
 have nbo_x28_1_5_b9 := Ol O28_1_5_12 lo_b9
 have nbo_x35_0_11_b9 := Ol O35_0_11_12 lo_b9
 have nbo_x35_1_11_b9 := Ol O35_1_11_12 lo_b9
 have s2_13 := oT hO s2_12 rfl
 have s3_13 := oT hO s3_12 rfl
 have s5_13 := oT hO s5_12 rfl
 have s6_13 := oT hO s6_12 rfl
 have s7_13 := oT hO s7_12 rfl
 have s8_13 := oT hO s8_12 rfl
 have s34_13 := oT hO s34_12 rfl
 have s35_13 := oT hO s35_12 rfl
 have s36_13 := oT hO s36_12 rfl
 clear hO hv N12 D12 E12 B2_12 B3_12 B5_12 B6_12 B8_12 X28_0_5_12 X28_1_5_12 X35_0_11_12 X35_1_11_12 O28_0_5_12 O28_1_5_12 O35_0_11_12 O35_1_11_12 s2_12 s3_12 s5_12 s6_12 s7_12 s8_12 s34_12 s35_12 s36_12
 refine tail_none rfl rfl (does_storeD (o := 0) (n := 6) (cs' := [w32 ((keyUse seed h i msg).1).a, w32 ((keyUse seed h i msg).1).b, w32 ((keyUse seed h i msg).1).c, w32 ((keyUse seed h i msg).1).d, i64 ((keyUse seed h i msg).2.1), i64 ((keyUse seed h i msg).2.2.1)]) (V := Value.agg #[w32 ((keyUse seed h i msg).1).a, w32 ((keyUse seed h i msg).1).b, w32 ((keyUse seed h i msg).1).c, w32 ((keyUse seed h i msg).1).d, i64 ((keyUse seed h i msg).2.1), i64 ((keyUse seed h i msg).2.2.1)]) s8_13 s34_13 B8_13 (nB rfl) rfl siz_30 rfl rfl (fun wd14 hX hz B8_14 => ?_))
 have E14 := E13.since hX (fun k e => e ▸ fr_b8)
 have B2_14 := B2_13.ext hX ne_b2_b8
 have B3_14 := B3_13.ext hX ne_b3_b8
 have B5_14 := B5_13.ext hX ne_b5_b8
 have B6_14 := B6_13.ext hX ne_b6_b8
 have B9_14 := B9_13.ext hX ne_b8_b9.symm
 have X28_0_5_14 := SlT.over X28_0_5_13 hX nb_x28_0_5_b8
 have X28_1_5_14 := SlT.over X28_1_5_13 hX nb_x28_1_5_b8
 have X35_0_11_14 := SlT.over X35_0_11_13 hX nb_x35_0_11_b8
 have X35_1_11_14 := SlT.over X35_1_11_13 hX nb_x35_1_11_b8
 have O28_0_5_14 := OwnT.ext O28_0_5_13 hX (fun k hk e => nbo_x28_0_5_b8 (e ▸ hk))
 have O28_1_5_14 := OwnT.ext O28_1_5_13 hX (fun k hk e => nbo_x28_1_5_b8 (e ▸ hk))
 have O35_0_11_14 := OwnT.ext O35_0_11_13 hX (fun k hk e => nbo_x35_0_11_b8 (e ▸ hk))
 have O35_1_11_14 := OwnT.ext O35_1_11_13 hX (fun k hk e => nbo_x35_1_11_b8 (e ▸ hk))
 clear hX hz E13 B2_13 B3_13 B5_13 B6_13 B8_13 B9_13 X28_0_5_13 X28_1_5_13 X35_0_11_13 X35_1_11_13 O28_0_5_13 O28_1_5_13 O35_0_11_13 O35_1_11_13
 refine tail_none rfl rfl (does_storeD (o := 0) (n := 3) (cs' := [i64 ((keyUse seed h i msg).2.2.2.1), x35_0_11, x35_1_11]) (V := Value.agg #[i64 ((keyUse seed h i msg).2.2.2.1), x35_0_11, x35_1_11]) s9_13 s35_13 B9_14 (nB rfl) rfl siz_37 (one_cons rfl (one_cons (SlT.one X35_0_11_14) (one_cons (SlT.one X35_1_11_14) one_nil))) rfl (fun wd15 hX hz B9_15 => ?_))
 have E15 := E14.since hX (fun k e => e ▸ fr_b9)
 have B2_15 := B2_14.ext hX ne_b2_b9
 have B3_15 := B3_14.ext hX ne_b3_b9
 have B5_15 := B5_14.ext hX ne_b5_b9
 have B6_15 := B6_14.ext hX ne_b6_b9
 have B8_15 := B8_14.ext hX ne_b8_b9
 have X28_0_5_15 := SlT.over X28_0_5_14 hX nb_x28_0_5_b9
 have X28_1_5_15 := SlT.over X28_1_5_14 hX nb_x28_1_5_b9
 have X35_0_11_15 := SlT.over X35_0_11_14 hX nb_x35_0_11_b9
 have X35_1_11_15 := SlT.over X35_1_11_14 hX nb_x35_1_11_b9
 have O28_0_5_15 := OwnT.ext O28_0_5_14 hX (fun k hk e => nbo_x28_0_5_b9 (e ▸ hk))
 have O28_1_5_15 := OwnT.ext O28_1_5_14 hX (fun k hk e => nbo_x28_1_5_b9 (e ▸ hk))
 have O35_0_11_15 := OwnT.ext O35_0_11_14 hX (fun k hk e => nbo_x35_0_11_b9 (e ▸ hk))
 have O35_1_11_15 := OwnT.ext O35_1_11_14 hX (fun k hk e => nbo_x35_1_11_b9 (e ▸ hk))
 clear hX hz E14 B2_14 B3_14 B5_14 B6_14 B8_14 B9_14 X28_0_5_14 X28_1_5_14 X35_0_11_14 X35_1_11_14 O28_0_5_14 O28_1_5_14 O35_0_11_14 O35_1_11_14
 refine tail_put rfl rfl N13 D13 (by decide) (does_assign (V := i64 (((keyUse seed h i msg).2.2.2.2.2.2 : Nat) : Int)) s36_13 (fun a16 N16 D16 hv hO => ?_))
 have s10_16 := hv
 have s2_16 := oT hO s2_13 rfl
 have s3_16 := oT hO s3_13 rfl
 have s5_16 := oT hO s5_13 rfl
 have s6_16 := oT hO s6_13 rfl
 have s7_16 := oT hO s7_13 rfl
 have s8_16 := oT hO s8_13 rfl
 have s9_16 := oT hO s9_13 rfl
 clear hO hv N13 D13 s2_13 s3_13 s5_13 s6_13 s7_13 s8_13 s9_13 s34_13 s35_13 s36_13
 refine tail_nil ?_
 refine wp_seq ?_
 refine wp_seq ?_
 refine Rl [] [(37, Pr.ex (i64 (((keyUse seed h i msg).2.2.2.2.2.2 : Nat) : Int))), (38, Pr.ex (i64 (((keyUse seed h i msg).2.2.2.2.2.2 : Nat) : Int))), (39, Pr.ex (Value.bool (!decide ((((keyUse seed h i msg).2.2.2.2.2.2 : Nat) : Int) = (((keyUse seed h i msg).2.2.2.2.2.2 : Nat) : Int))))), (40, Pr.ex (Value.bool (!decide ((((keyUse seed h i msg).2.2.2.2.2.2 : Nat) : Int) = (((keyUse seed h i msg).2.2.2.2.2.2 : Nat) : Int))))), (41, Pr.ifb (!(!decide ((((keyUse seed h i msg).2.2.2.2.2.2 : Nat) : Int) = (((keyUse seed h i msg).2.2.2.2.2.2 : Nat) : Int)))) (Pr.ex (Value.agg #[w32 ((keyUse seed h i msg).1).a, w32 ((keyUse seed h i msg).1).b, w32 ((keyUse seed h i msg).1).c, w32 ((keyUse seed h i msg).1).d, i64 ((keyUse seed h i msg).2.1), i64 ((keyUse seed h i msg).2.2.1)]))), (42, Pr.ifb (!(!decide ((((keyUse seed h i msg).2.2.2.2.2.2 : Nat) : Int) = (((keyUse seed h i msg).2.2.2.2.2.2 : Nat) : Int)))) (Pr.ex (Value.agg #[w32 ((keyUse seed h i msg).1).a, w32 ((keyUse seed h i msg).1).b, w32 ((keyUse seed h i msg).1).c, w32 ((keyUse seed h i msg).1).d, i64 ((keyUse seed h i msg).2.1), i64 ((keyUse seed h i msg).2.2.1)]))), (43, Pr.ifb (!(!decide ((((keyUse seed h i msg).2.2.2.2.2.2 : Nat) : Int) = (((keyUse seed h i msg).2.2.2.2.2.2 : Nat) : Int)))) (Pr.ex (Value.bool (!decide ((⟨(keyUse seed h i msg).1, (keyUse seed h i msg).2.1, (keyUse seed h i msg).2.2.1⟩ : Signer) = (⟨(keyUse seed h i msg).1, (keyUse seed h i msg).2.1, (keyUse seed h i msg).2.2.1⟩ : Signer)))))), (44, Pr.ex (Value.bool ((!decide ((((keyUse seed h i msg).2.2.2.2.2.2 : Nat) : Int) = (((keyUse seed h i msg).2.2.2.2.2.2 : Nat) : Int))) || (!decide ((⟨(keyUse seed h i msg).1, (keyUse seed h i msg).2.1, (keyUse seed h i msg).2.2.1⟩ : Signer) = (⟨(keyUse seed h i msg).1, (keyUse seed h i msg).2.1, (keyUse seed h i msg).2.2.1⟩ : Signer)))))), (45, Pr.ex (Value.bool ((!decide ((((keyUse seed h i msg).2.2.2.2.2.2 : Nat) : Int) = (((keyUse seed h i msg).2.2.2.2.2.2 : Nat) : Int))) || (!decide ((⟨(keyUse seed h i msg).1, (keyUse seed h i msg).2.1, (keyUse seed h i msg).2.2.1⟩ : Signer) = (⟨(keyUse seed h i msg).1, (keyUse seed h i msg).2.1, (keyUse seed h i msg).2.2.1⟩ : Signer)))))), (46, Pr.ifb (!((!decide ((((keyUse seed h i msg).2.2.2.2.2.2 : Nat) : Int) = (((keyUse seed h i msg).2.2.2.2.2.2 : Nat) : Int))) || (!decide ((⟨(keyUse seed h i msg).1, (keyUse seed h i msg).2.1, (keyUse seed h i msg).2.2.1⟩ : Signer) = (⟨(keyUse seed h i msg).1, (keyUse seed h i msg).2.1, (keyUse seed h i msg).2.2.1⟩ : Signer))))) (Pr.ex (Value.agg #[i64 ((keyUse seed h i msg).2.2.2.1), x28_0_5, x28_1_5]))), (47, Pr.ifb (!((!decide ((((keyUse seed h i msg).2.2.2.2.2.2 : Nat) : Int) = (((keyUse seed h i msg).2.2.2.2.2.2 : Nat) : Int))) || (!decide ((⟨(keyUse seed h i msg).1, (keyUse seed h i msg).2.1, (keyUse seed h i msg).2.2.1⟩ : Signer) = (⟨(keyUse seed h i msg).1, (keyUse seed h i msg).2.1, (keyUse seed h i msg).2.2.1⟩ : Signer))))) (Pr.ex (Value.agg #[i64 ((keyUse seed h i msg).2.2.2.1), x35_0_11, x35_1_11]))), (48, Pr.ifb (!((!decide ((((keyUse seed h i msg).2.2.2.2.2.2 : Nat) : Int) = (((keyUse seed h i msg).2.2.2.2.2.2 : Nat) : Int))) || (!decide ((⟨(keyUse seed h i msg).1, (keyUse seed h i msg).2.1, (keyUse seed h i msg).2.2.1⟩ : Signer) = (⟨(keyUse seed h i msg).1, (keyUse seed h i msg).2.1, (keyUse seed h i msg).2.2.1⟩ : Signer))))) (Pr.ex (Value.bool ((decide ((keyUse seed h i msg).2.2.2.1 = (keyUse seed h i msg).2.2.2.1) && decide ((keyUse seed h i msg).2.2.2.2.1 = (keyUse seed h i msg).2.2.2.2.1)) && decide ((keyUse seed h i msg).2.2.2.2.2.1 = (keyUse seed h i msg).2.2.2.2.2.1))))), (49, Pr.ifb (!((!decide ((((keyUse seed h i msg).2.2.2.2.2.2 : Nat) : Int) = (((keyUse seed h i msg).2.2.2.2.2.2 : Nat) : Int))) || (!decide ((⟨(keyUse seed h i msg).1, (keyUse seed h i msg).2.1, (keyUse seed h i msg).2.2.1⟩ : Signer) = (⟨(keyUse seed h i msg).1, (keyUse seed h i msg).2.1, (keyUse seed h i msg).2.2.1⟩ : Signer))))) (Pr.ex (Value.bool (!((decide ((keyUse seed h i msg).2.2.2.1 = (keyUse seed h i msg).2.2.2.1) && decide ((keyUse seed h i msg).2.2.2.2.1 = (keyUse seed h i msg).2.2.2.2.1)) && decide ((keyUse seed h i msg).2.2.2.2.2.1 = (keyUse seed h i msg).2.2.2.2.2.1)))))), (50, Pr.ex (Value.bool (((!decide ((((keyUse seed h i msg).2.2.2.2.2.2 : Nat) : Int) = (((keyUse seed h i msg).2.2.2.2.2.2 : Nat) : Int))) || (!decide ((⟨(keyUse seed h i msg).1, (keyUse seed h i msg).2.1, (keyUse seed h i msg).2.2.1⟩ : Signer) = (⟨(keyUse seed h i msg).1, (keyUse seed h i msg).2.1, (keyUse seed h i msg).2.2.1⟩ : Signer)))) || (!((decide ((keyUse seed h i msg).2.2.2.1 = (keyUse seed h i msg).2.2.2.1) && decide ((keyUse seed h i msg).2.2.2.2.1 = (keyUse seed h i msg).2.2.2.2.1)) && decide ((keyUse seed h i msg).2.2.2.2.2.1 = (keyUse seed h i msg).2.2.2.2.2.1))))))] 14 N16 D16 ?_ ?_
 refine Ac ?_ (Ac ?_ (Ac ?_ (Ac ?_ (Ac ?_ (Ac ?_ (Ac ?_ (Ac ?_ (Ac ?_ (Ac ?_ (Ac ?_ (Ac ?_ (Ac ?_ (Ac ?_ (Az _))))))))))))))
 exact Am s7_16 rfl fun _ => rfl
 exact Am s10_16 rfl fun _ => rfl
 exact Ap fun aq wq _ hO hR hT => does_neq (a := (((keyUse seed h i msg).2.2.2.2.2.2 : Nat) : Int)) (b := (((keyUse seed h i msg).2.2.2.2.2.2 : Nat) : Int)) (hT 37 rfl rfl) (hT 38 rfl rfl) eR
 exact Ap fun aq wq _ hO hR hT => does_move (V := Value.bool (!decide ((((keyUse seed h i msg).2.2.2.2.2.2 : Nat) : Int) = (((keyUse seed h i msg).2.2.2.2.2.2 : Nat) : Int)))) (hT 39 rfl rfl) eR
 refine Ask.guarded (B := !decide ((((keyUse seed h i msg).2.2.2.2.2.2 : Nat) : Int) = (((keyUse seed h i msg).2.2.2.2.2.2 : Nat) : Int))) (want := false) (t := 40) rfl rfl rfl rfl (by decide) (fun aq wq hO hR hT => hT 40 rfl rfl) (fun hG aq wq hNq hO hR hT => ?_) (fun hno _ => fun hc => absurd (bn hc) hno)
 replace hG := nb hG
 exact does_loadD (o := 0) (n := 6) (mid := [w32 ((keyUse seed h i msg).1).a, w32 ((keyUse seed h i msg).1).b, w32 ((keyUse seed h i msg).1).c, w32 ((keyUse seed h i msg).1).d, i64 ((keyUse seed h i msg).2.1), i64 ((keyUse seed h i msg).2.2.1)]) (oT hO s5_16 rfl) (B5_15.ext' hR) rfl rfl (nB rfl) row_30 rfl ⟨Ext.refl _, fun _ => rfl⟩
 refine Ask.guarded (B := !decide ((((keyUse seed h i msg).2.2.2.2.2.2 : Nat) : Int) = (((keyUse seed h i msg).2.2.2.2.2.2 : Nat) : Int))) (want := false) (t := 40) rfl rfl rfl rfl (by decide) (fun aq wq hO hR hT => hT 40 rfl rfl) (fun hG aq wq hNq hO hR hT => ?_) (fun hno _ => fun hc => absurd (bn hc) hno)
 replace hG := nb hG
 exact does_loadD (o := 0) (n := 6) (mid := [w32 ((keyUse seed h i msg).1).a, w32 ((keyUse seed h i msg).1).b, w32 ((keyUse seed h i msg).1).c, w32 ((keyUse seed h i msg).1).d, i64 ((keyUse seed h i msg).2.1), i64 ((keyUse seed h i msg).2.2.1)]) (oT hO s8_16 rfl) (B8_15.ext' hR) rfl rfl (nB rfl) row_30 rfl ⟨Ext.refl _, fun _ => rfl⟩
 refine Ask.guarded (B := !decide ((((keyUse seed h i msg).2.2.2.2.2.2 : Nat) : Int) = (((keyUse seed h i msg).2.2.2.2.2.2 : Nat) : Int))) (want := false) (t := 40) rfl rfl rfl rfl (by decide) (fun aq wq hO hR hT => hT 40 rfl rfl) (fun hG aq wq hNq hO hR hT => ?_) (fun hno _ => fun hc => absurd (bn hc) hno)
 replace hG := nb hG
 exact does_neT (a := (⟨(keyUse seed h i msg).1, (keyUse seed h i msg).2.1, (keyUse seed h i msg).2.2.1⟩ : Signer)) (b := (⟨(keyUse seed h i msg).1, (keyUse seed h i msg).2.1, (keyUse seed h i msg).2.2.1⟩ : Signer)) eq_30 (hT 41 rfl rfl hG) (hT 42 rfl rfl hG) ⟨Ext.refl _, fun _ => rfl⟩
 exact Ap fun aq wq _ hO hR hT => does_or (B := !decide ((((keyUse seed h i msg).2.2.2.2.2.2 : Nat) : Int) = (((keyUse seed h i msg).2.2.2.2.2.2 : Nat) : Int))) (X := !decide ((⟨(keyUse seed h i msg).1, (keyUse seed h i msg).2.1, (keyUse seed h i msg).2.2.1⟩ : Signer) = (⟨(keyUse seed h i msg).1, (keyUse seed h i msg).2.1, (keyUse seed h i msg).2.2.1⟩ : Signer))) (hT 40 rfl rfl) rfl (fun hB => (hT 43 rfl rfl (nb hB))) eR
 exact Ap fun aq wq _ hO hR hT => does_move (V := Value.bool ((!decide ((((keyUse seed h i msg).2.2.2.2.2.2 : Nat) : Int) = (((keyUse seed h i msg).2.2.2.2.2.2 : Nat) : Int))) || (!decide ((⟨(keyUse seed h i msg).1, (keyUse seed h i msg).2.1, (keyUse seed h i msg).2.2.1⟩ : Signer) = (⟨(keyUse seed h i msg).1, (keyUse seed h i msg).2.1, (keyUse seed h i msg).2.2.1⟩ : Signer))))) (hT 44 rfl rfl) eR
 refine Ask.guarded (B := (!decide ((((keyUse seed h i msg).2.2.2.2.2.2 : Nat) : Int) = (((keyUse seed h i msg).2.2.2.2.2.2 : Nat) : Int))) || (!decide ((⟨(keyUse seed h i msg).1, (keyUse seed h i msg).2.1, (keyUse seed h i msg).2.2.1⟩ : Signer) = (⟨(keyUse seed h i msg).1, (keyUse seed h i msg).2.1, (keyUse seed h i msg).2.2.1⟩ : Signer)))) (want := false) (t := 45) rfl rfl rfl rfl (by decide) (fun aq wq hO hR hT => hT 45 rfl rfl) (fun hG aq wq hNq hO hR hT => ?_) (fun hno _ => fun hc => absurd (bn hc) hno)
 replace hG := nb hG
 exact does_loadD (o := 0) (n := 3) (mid := [i64 ((keyUse seed h i msg).2.2.2.1), x28_0_5, x28_1_5]) (oT hO s6_16 rfl) (B6_15.ext' hR) rfl rfl (nB rfl) row_37 rfl ⟨Ext.refl _, fun _ => rfl⟩
 refine Ask.guarded (B := (!decide ((((keyUse seed h i msg).2.2.2.2.2.2 : Nat) : Int) = (((keyUse seed h i msg).2.2.2.2.2.2 : Nat) : Int))) || (!decide ((⟨(keyUse seed h i msg).1, (keyUse seed h i msg).2.1, (keyUse seed h i msg).2.2.1⟩ : Signer) = (⟨(keyUse seed h i msg).1, (keyUse seed h i msg).2.1, (keyUse seed h i msg).2.2.1⟩ : Signer)))) (want := false) (t := 45) rfl rfl rfl rfl (by decide) (fun aq wq hO hR hT => hT 45 rfl rfl) (fun hG aq wq hNq hO hR hT => ?_) (fun hno _ => fun hc => absurd (bn hc) hno)
 replace hG := nb hG
 exact does_loadD (o := 0) (n := 3) (mid := [i64 ((keyUse seed h i msg).2.2.2.1), x35_0_11, x35_1_11]) (oT hO s9_16 rfl) (B9_15.ext' hR) rfl rfl (nB rfl) row_37 rfl ⟨Ext.refl _, fun _ => rfl⟩
 refine Ask.guarded (B := (!decide ((((keyUse seed h i msg).2.2.2.2.2.2 : Nat) : Int) = (((keyUse seed h i msg).2.2.2.2.2.2 : Nat) : Int))) || (!decide ((⟨(keyUse seed h i msg).1, (keyUse seed h i msg).2.1, (keyUse seed h i msg).2.2.1⟩ : Signer) = (⟨(keyUse seed h i msg).1, (keyUse seed h i msg).2.1, (keyUse seed h i msg).2.2.1⟩ : Signer)))) (want := false) (t := 45) rfl rfl rfl rfl (by decide) (fun aq wq hO hR hT => hT 45 rfl rfl) (fun hG aq wq hNq hO hR hT => ?_) (fun hno _ => fun hc => absurd (bn hc) hno)
 replace hG := nb hG
 exact does_ret (vs := #[Value.agg #[i64 ((keyUse seed h i msg).2.2.2.1), x28_0_5, x28_1_5], Value.agg #[i64 ((keyUse seed h i msg).2.2.2.1), x35_0_11, x35_1_11]]) call_13 (args2 (hT 46 rfl rfl hG) (hT 47 rfl rfl hG)) rfl ((sameSig ((keyUse seed h i msg).2.2.2.1) ((keyUse seed h i msg).2.2.2.1) ((keyUse seed h i msg).2.2.2.2.1) ((keyUse seed h i msg).2.2.2.2.2.1) ((keyUse seed h i msg).2.2.2.2.1) ((keyUse seed h i msg).2.2.2.2.2.1) (x28_0_5) (x28_1_5) (x35_0_11) (x35_1_11) wq ((X28_0_5_15.ext' hR).wide (Nat.zero_le _) (.inl rfl)) ((X28_1_5_15.ext' hR).wide (Nat.zero_le _) (.inl rfl)) ((X35_0_11_15.ext' hR).wide (Nat.zero_le _) (.inl rfl)) ((X35_1_11_15.ext' hR).wide (Nat.zero_le _) (.inl rfl)) (Nat.le_trans keyUse_len.1 (by decide)) (Nat.le_trans keyUse_len.2 (by decide))).mono fun v w2 h => ⟨h.2, fun _ => h.1⟩)
 refine Ask.guarded (B := (!decide ((((keyUse seed h i msg).2.2.2.2.2.2 : Nat) : Int) = (((keyUse seed h i msg).2.2.2.2.2.2 : Nat) : Int))) || (!decide ((⟨(keyUse seed h i msg).1, (keyUse seed h i msg).2.1, (keyUse seed h i msg).2.2.1⟩ : Signer) = (⟨(keyUse seed h i msg).1, (keyUse seed h i msg).2.1, (keyUse seed h i msg).2.2.1⟩ : Signer)))) (want := false) (t := 45) rfl rfl rfl rfl (by decide) (fun aq wq hO hR hT => hT 45 rfl rfl) (fun hG aq wq hNq hO hR hT => ?_) (fun hno _ => fun hc => absurd (bn hc) hno)
 replace hG := nb hG
 exact does_not (B := (decide ((keyUse seed h i msg).2.2.2.1 = (keyUse seed h i msg).2.2.2.1) && decide ((keyUse seed h i msg).2.2.2.2.1 = (keyUse seed h i msg).2.2.2.2.1)) && decide ((keyUse seed h i msg).2.2.2.2.2.1 = (keyUse seed h i msg).2.2.2.2.2.1)) (hT 48 rfl rfl hG) ⟨Ext.refl _, fun _ => rfl⟩
 exact Ap fun aq wq _ hO hR hT => does_or (B := (!decide ((((keyUse seed h i msg).2.2.2.2.2.2 : Nat) : Int) = (((keyUse seed h i msg).2.2.2.2.2.2 : Nat) : Int))) || (!decide ((⟨(keyUse seed h i msg).1, (keyUse seed h i msg).2.1, (keyUse seed h i msg).2.2.1⟩ : Signer) = (⟨(keyUse seed h i msg).1, (keyUse seed h i msg).2.1, (keyUse seed h i msg).2.2.1⟩ : Signer)))) (X := !((decide ((keyUse seed h i msg).2.2.2.1 = (keyUse seed h i msg).2.2.2.1) && decide ((keyUse seed h i msg).2.2.2.2.1 = (keyUse seed h i msg).2.2.2.2.1)) && decide ((keyUse seed h i msg).2.2.2.2.2.1 = (keyUse seed h i msg).2.2.2.2.2.1))) (hT 45 rfl rfl) rfl (fun hB => (hT 49 rfl rfl (nb hB))) eR
 intro a17 wd17 N17 D17 hO hR hA hU
 obtain ⟨_, _, _, _, _, _, _, _, _, _, _, _, _, t50, _⟩ := hA
 have E17 := E15.trans hR
 have s2_17 := oT hO s2_16 rfl
 have s3_17 := oT hO s3_16 rfl
 have s5_17 := oT hO s5_16 rfl
 have s6_17 := oT hO s6_16 rfl
 have s7_17 := oT hO s7_16 rfl
 have B2_17 := B2_15.ext' hR
 have B3_17 := B3_15.ext' hR
 have B5_17 := B5_15.ext' hR
 have B6_17 := B6_15.ext' hR
 have B8_17 := B8_15.ext' hR
 have B9_17 := B9_15.ext' hR
 have X28_0_5_17 := X28_0_5_15.ext' hR
 have X28_1_5_17 := X28_1_5_15.ext' hR
 have X35_0_11_17 := X35_0_11_15.ext' hR
 have X35_1_11_17 := X35_1_11_15.ext' hR
 have O28_0_5_17 := O28_0_5_15.ext' hR
 have O28_1_5_17 := O28_1_5_15.ext' hR
 have O35_0_11_17 := O35_0_11_15.ext' hR
 have O35_1_11_17 := O35_1_11_15.ext' hR
 have s50_17 : get a17 50 = Value.bool (((!decide ((((keyUse seed h i msg).2.2.2.2.2.2 : Nat) : Int) = (((keyUse seed h i msg).2.2.2.2.2.2 : Nat) : Int))) || (!decide ((⟨(keyUse seed h i msg).1, (keyUse seed h i msg).2.1, (keyUse seed h i msg).2.2.1⟩ : Signer) = (⟨(keyUse seed h i msg).1, (keyUse seed h i msg).2.1, (keyUse seed h i msg).2.2.1⟩ : Signer)))) || (!((decide ((keyUse seed h i msg).2.2.2.1 = (keyUse seed h i msg).2.2.2.1) && decide ((keyUse seed h i msg).2.2.2.2.1 = (keyUse seed h i msg).2.2.2.2.1)) && decide ((keyUse seed h i msg).2.2.2.2.2.1 = (keyUse seed h i msg).2.2.2.2.2.1)))) := t50
 clear E15 N16 D16 s2_16 s3_16 s5_16 s6_16 s7_16 s8_16 s9_16 s10_16 B2_15 B3_15 B5_15 B6_15 B8_15 B9_15 X28_0_5_15 X28_1_5_15 X35_0_11_15 X35_1_11_15 O28_0_5_15 O28_1_5_15 O35_0_11_15 O35_1_11_15
 refine tail_nil ?_
 refine wp_if (B := ((!decide ((((keyUse seed h i msg).2.2.2.2.2.2 : Nat) : Int) = (((keyUse seed h i msg).2.2.2.2.2.2 : Nat) : Int))) || (!decide ((⟨(keyUse seed h i msg).1, (keyUse seed h i msg).2.1, (keyUse seed h i msg).2.2.1⟩ : Signer) = (⟨(keyUse seed h i msg).1, (keyUse seed h i msg).2.1, (keyUse seed h i msg).2.2.1⟩ : Signer)))) || (!((decide ((keyUse seed h i msg).2.2.2.1 = (keyUse seed h i msg).2.2.2.1) && decide ((keyUse seed h i msg).2.2.2.2.1 = (keyUse seed h i msg).2.2.2.2.1)) && decide ((keyUse seed h i msg).2.2.2.2.2.1 = (keyUse seed h i msg).2.2.2.2.2.1)))) s50_17 (fun hc1 => ?_) (fun hc1 => ?_)
 simp at hc1
 refine wp_skip ?_
 refine wp_seq ?_
 refine wp_seq ?_
 refine Rl [] [(51, Pr.ex (i64 (((keyUse seed h i msg).2.2.2.2.2.2 : Nat) : Int))), (52, Pr.ex (Value.bool (!decide ((((keyUse seed h i msg).2.2.2.2.2.2 : Nat) : Int) = ((0 : Nat) : Int)))))] 2 N17 D17 ?_ ?_
 refine Ac ?_ (Ac ?_ (Az _))
 exact Am s7_17 rfl fun _ => rfl
 exact Ap fun aq wq _ hO hR hT => does_neq (a := (((keyUse seed h i msg).2.2.2.2.2.2 : Nat) : Int)) (b := ((0 : Nat) : Int)) (hT 51 rfl rfl) rfl eR
 intro a18 wd18 N18 D18 hO hR hA hU
 obtain ⟨_, t52, _⟩ := hA
 have E18 := E17.trans hR
 have s2_18 := oT hO s2_17 rfl
 have s3_18 := oT hO s3_17 rfl
 have s5_18 := oT hO s5_17 rfl
 have s6_18 := oT hO s6_17 rfl
 have B2_18 := B2_17.ext' hR
 have B3_18 := B3_17.ext' hR
 have B5_18 := B5_17.ext' hR
 have B6_18 := B6_17.ext' hR
 have B8_18 := B8_17.ext' hR
 have B9_18 := B9_17.ext' hR
 have X28_0_5_18 := X28_0_5_17.ext' hR
 have X28_1_5_18 := X28_1_5_17.ext' hR
 have X35_0_11_18 := X35_0_11_17.ext' hR
 have X35_1_11_18 := X35_1_11_17.ext' hR
 have O28_0_5_18 := O28_0_5_17.ext' hR
 have O28_1_5_18 := O28_1_5_17.ext' hR
 have O35_0_11_18 := O35_0_11_17.ext' hR
 have O35_1_11_18 := O35_1_11_17.ext' hR
 have s52_18 : get a18 52 = Value.bool (!decide ((((keyUse seed h i msg).2.2.2.2.2.2 : Nat) : Int) = ((0 : Nat) : Int))) := t52
 clear E17 N17 D17 s2_17 s3_17 s5_17 s6_17 s7_17 s50_17 B2_17 B3_17 B5_17 B6_17 B8_17 B9_17 X28_0_5_17 X28_1_5_17 X35_0_11_17 X35_1_11_17 O28_0_5_17 O28_1_5_17 O35_0_11_17 O35_1_11_17
 refine tail_nil ?_
 refine wp_if (B := !decide ((((keyUse seed h i msg).2.2.2.2.2.2 : Nat) : Int) = ((0 : Nat) : Int))) s52_18 (fun hc2 => ?_) (fun hc2 => ?_)
 have hc2 := of_decide_eq_false (bn hc2)
 refine wp_seq ?_
 refine Rl [] [(4, Pr.ex (Value.bool (true)))] 1 N18 D18 ?_ ?_
 refine Ac ?_ (Az _)
 exact Ap fun aq wq _ hO hR hT => does_assign (V := Value.bool (true)) rfl eR
 intro a19 wd19 N19 D19 hO hR hA hU
 obtain ⟨t4, _⟩ := hA
 have E19 := E18.trans hR
 have B2_19 := B2_18.ext' hR
 have B3_19 := B3_18.ext' hR
 have B5_19 := B5_18.ext' hR
 have B6_19 := B6_18.ext' hR
 have B8_19 := B8_18.ext' hR
 have B9_19 := B9_18.ext' hR
 have X28_0_5_19 := X28_0_5_18.ext' hR
 have X28_1_5_19 := X28_1_5_18.ext' hR
 have X35_0_11_19 := X35_0_11_18.ext' hR
 have X35_1_11_19 := X35_1_11_18.ext' hR
 have O28_0_5_19 := O28_0_5_18.ext' hR
 have O28_1_5_19 := O28_1_5_18.ext' hR
 have O35_0_11_19 := O35_0_11_18.ext' hR
 have O35_1_11_19 := O35_1_11_18.ext' hR
 have s4_19 : get a19 4 = Value.bool (true) := t4
 clear E18 N18 D18 s2_18 s3_18 s5_18 s6_18 s52_18 B2_18 B3_18 B5_18 B6_18 B8_18 B9_18 X28_0_5_18 X28_1_5_18 X35_0_11_18 X35_1_11_18 O28_0_5_18 O28_1_5_18 O35_0_11_18 O35_1_11_18
 refine tail_nil ?_
 refine wp_ret ?_
 refine res_one (V := Value.bool (true)) rfl D19 s4_19 ?_
 exact ⟨rfl, E19⟩
 have hc2 := of_decide_eq_true (bn' hc2)
 obtain ⟨hb, hbi⟩ := (keyUse_err (seed := seed) (h := h) (i := i) (msg := msg)).1 (by omega)
 have hp16 := pw_toNat hb
 refine wp_skip ?_
 refine wp_seq ?_
 refine Rl [11] [(54, Pr.ex (Value.pointer (some ⟨b2, 0, none⟩))), (55, Pr.ex (Dg.val (seed))), (56, Pr.ex (Value.pointer (some ⟨b2, 4, none⟩))), (57, Pr.ex (i64 (h))), (58, Pr.ex (Value.tuple #[Dg.val ((keyPub seed h).1), i64 (((keyPub seed h).2 : Nat) : Int)])), (53, Pr.ex (Value.tuple #[Dg.val ((keyPub seed h).1), i64 (((keyPub seed h).2 : Nat) : Int)])), (59, Pr.ex (Dg.val ((keyPub seed h).1))), (60, Pr.ex (i64 (((keyPub seed h).2 : Nat) : Int))), (11, Pr.box' wd18.heap.size 24 [w32 (Dg.zero).a, w32 (Dg.zero).b, w32 (Dg.zero).c, w32 (Dg.zero).d])] 9 N18 D18 ?_ ?_
 refine Ac ?_ (Ac ?_ (Ac ?_ (Ac ?_ (Ac ?_ (Ac ?_ (Ac ?_ (Ac ?_ (Ac ?_ (Az _)))))))))
 exact Ap fun aq wq _ hO hR hT => does_field (o' := 0) fld_30_0 (oT hO s2_18 rfl) rfl eR
 exact Ap fun aq wq _ hO hR hT => does_loadD (o := 0) (n := 4) (mid := [w32 (seed).a, w32 (seed).b, w32 (seed).c, w32 (seed).d]) (hT 54 rfl rfl) (B2_18.ext' hR) rfl rfl (nB rfl) row_24 rfl eR
 exact Ap fun aq wq _ hO hR hT => does_field (o' := 4) fld_30_1 (oT hO s2_18 rfl) rfl eR
 exact Ap fun aq wq _ hO hR hT => does_loadD1 (o := 4) (V := i64 (h)) (hT 56 rfl rfl) (B2_18.ext' hR) rfl one_3 eR
 exact Ap fun aq wq _ hO hR hT => does_ret (vs := #[Dg.val (seed), i64 (h)]) call_8 (args2 (hT 55 rfl rfl) (hT 57 rfl rfl)) rfl ((keyPub_ seed h wq (hL.ext (E18.trans hR))).mono fun v w2 h => ⟨h.2, h.1⟩)
 exact Ap fun aq wq _ hO hR hT => does_move (V := Value.tuple #[Dg.val ((keyPub seed h).1), i64 (((keyPub seed h).2 : Nat) : Int)]) (hT 58 rfl rfl) eR
 exact Ap fun aq wq _ hO hR hT => does_extract (V := Dg.val ((keyPub seed h).1)) (hT 53 rfl rfl) rfl eR
 exact Ap fun aq wq _ hO hR hT => does_extract (V := i64 (((keyPub seed h).2 : Nat) : Int)) (hT 53 rfl rfl) rfl eR
 refine Ask.fresh rfl rfl ?_
 intro aq wq hNq hO hR hT
 exact does_alloc zero_24 (fun b w2 he hlo hb => ⟨he, ⟨b, rfl, Nat.le_trans hR.size' hlo, hb⟩, ⟨b, rfl, hlo, hb.lt⟩⟩)
 intro a20 wd20 N20 D20 hO hR hA hU
 obtain ⟨_, _, _, _, _, _, t59, t60, t11, _⟩ := hA
 have E20 := E18.trans hR
 have s2_20 := oT hO s2_18 rfl
 have s3_20 := oT hO s3_18 rfl
 have s5_20 := oT hO s5_18 rfl
 have s6_20 := oT hO s6_18 rfl
 have B2_20 := B2_18.ext' hR
 have B3_20 := B3_18.ext' hR
 have B5_20 := B5_18.ext' hR
 have B6_20 := B6_18.ext' hR
 have B8_20 := B8_18.ext' hR
 have B9_20 := B9_18.ext' hR
 have X28_0_5_20 := X28_0_5_18.ext' hR
 have X28_1_5_20 := X28_1_5_18.ext' hR
 have X35_0_11_20 := X35_0_11_18.ext' hR
 have X35_1_11_20 := X35_1_11_18.ext' hR
 have O28_0_5_20 := O28_0_5_18.ext' hR
 have O28_1_5_20 := O28_1_5_18.ext' hR
 have O35_0_11_20 := O35_0_11_18.ext' hR
 have O35_1_11_20 := O35_1_11_18.ext' hR
 have s59_20 : get a20 59 = Dg.val ((keyPub seed h).1) := t59
 have s60_20 : get a20 60 = i64 (((keyPub seed h).2 : Nat) : Int) := t60
 obtain ⟨b11, s11_20, lo_b11, B11_20⟩ := t11
 have ne_b2_b11 := Hl B2_18 lo_b11
 have ne_b3_b11 := Hl B3_18 lo_b11
 have ne_b5_b11 := Hl B5_18 lo_b11
 have ne_b6_b11 := Hl B6_18 lo_b11
 have ne_b8_b11 := Hl B8_18 lo_b11
 have ne_b9_b11 := Hl B9_18 lo_b11
 have nb_x28_0_5_b11 := SlT.old X28_0_5_18 lo_b11
 have nb_x28_1_5_b11 := SlT.old X28_1_5_18 lo_b11
 have nb_x35_0_11_b11 := SlT.old X35_0_11_18 lo_b11
 have nb_x35_1_11_b11 := SlT.old X35_1_11_18 lo_b11
 have nbo_x28_0_5_b11 := Ol O28_0_5_18 lo_b11
 have nbo_x28_1_5_b11 := Ol O28_1_5_18 lo_b11
 have nbo_x35_0_11_b11 := Ol O35_0_11_18 lo_b11
 have nbo_x35_1_11_b11 := Ol O35_1_11_18 lo_b11
 have fr_b11 : w0.heap.size ≤ b11 := Nat.le_trans E18.size' lo_b11
 clear E18 N18 D18 s2_18 s3_18 s5_18 s6_18 s52_18 B2_18 B3_18 B5_18 B6_18 B8_18 B9_18 X28_0_5_18 X28_1_5_18 X35_0_11_18 X35_1_11_18 O28_0_5_18 O28_1_5_18 O35_0_11_18 O35_1_11_18
 refine tail_none rfl rfl (does_storeD (o := 0) (n := 4) (cs' := [w32 ((keyPub seed h).1).a, w32 ((keyPub seed h).1).b, w32 ((keyPub seed h).1).c, w32 ((keyPub seed h).1).d]) (V := Dg.val ((keyPub seed h).1)) s11_20 s59_20 B11_20 (nB rfl) rfl siz_24 rfl rfl (fun wd21 hX hz B11_21 => ?_))
 have E21 := E20.since hX (fun k e => e ▸ fr_b11)
 have B2_21 := B2_20.ext hX ne_b2_b11
 have B3_21 := B3_20.ext hX ne_b3_b11
 have B5_21 := B5_20.ext hX ne_b5_b11
 have B6_21 := B6_20.ext hX ne_b6_b11
 have B8_21 := B8_20.ext hX ne_b8_b11
 have B9_21 := B9_20.ext hX ne_b9_b11
 have X28_0_5_21 := SlT.over X28_0_5_20 hX nb_x28_0_5_b11
 have X28_1_5_21 := SlT.over X28_1_5_20 hX nb_x28_1_5_b11
 have X35_0_11_21 := SlT.over X35_0_11_20 hX nb_x35_0_11_b11
 have X35_1_11_21 := SlT.over X35_1_11_20 hX nb_x35_1_11_b11
 have O28_0_5_21 := OwnT.ext O28_0_5_20 hX (fun k hk e => nbo_x28_0_5_b11 (e ▸ hk))
 have O28_1_5_21 := OwnT.ext O28_1_5_20 hX (fun k hk e => nbo_x28_1_5_b11 (e ▸ hk))
 have O35_0_11_21 := OwnT.ext O35_0_11_20 hX (fun k hk e => nbo_x35_0_11_b11 (e ▸ hk))
 have O35_1_11_21 := OwnT.ext O35_1_11_20 hX (fun k hk e => nbo_x35_1_11_b11 (e ▸ hk))
 clear hX hz E20 B2_20 B3_20 B5_20 B6_20 B8_20 B9_20 B11_20 X28_0_5_20 X28_1_5_20 X35_0_11_20 X35_1_11_20 O28_0_5_20 O28_1_5_20 O35_0_11_20 O35_1_11_20
 refine tail_put rfl rfl N20 D20 (by decide) (does_assign (V := i64 (((keyPub seed h).2 : Nat) : Int)) s60_20 (fun a22 N22 D22 hv hO => ?_))
 have s12_22 := hv
 have s2_22 := oT hO s2_20 rfl
 have s3_22 := oT hO s3_20 rfl
 have s5_22 := oT hO s5_20 rfl
 have s6_22 := oT hO s6_20 rfl
 have s11_22 := oT hO s11_20 rfl
 clear hO hv N20 D20 s2_20 s3_20 s5_20 s6_20 s11_20 s59_20 s60_20
 refine tail_nil ?_
 refine wp_seq ?_
 refine Rl [] [(61, Pr.ex (Value.pointer (some ⟨b5, 5, none⟩))), (62, Pr.ex (i64 ((keyUse seed h i msg).2.2.1))), (63, Pr.ex (Value.pointer (some ⟨b2, 5, none⟩))), (64, Pr.ex (i64 (i))), (65, Pr.ex (i64 (i + (((1 : Nat) : Int))))), (66, Pr.ex (Value.bool (decide ((keyUse seed h i msg).2.2.1 = i + (((1 : Nat) : Int)))))), (67, Pr.ex (Value.bool (decide ((keyUse seed h i msg).2.2.1 = i + (((1 : Nat) : Int)))))), (68, Pr.ifb (decide ((keyUse seed h i msg).2.2.1 = i + (((1 : Nat) : Int)))) (Pr.ex (Value.pointer (some ⟨b6, 0, none⟩)))), (69, Pr.ifb (decide ((keyUse seed h i msg).2.2.1 = i + (((1 : Nat) : Int)))) (Pr.ex (i64 ((keyUse seed h i msg).2.2.2.1)))), (70, Pr.ifb (decide ((keyUse seed h i msg).2.2.1 = i + (((1 : Nat) : Int)))) (Pr.ex (Value.pointer (some ⟨b2, 5, none⟩)))), (71, Pr.ifb (decide ((keyUse seed h i msg).2.2.1 = i + (((1 : Nat) : Int)))) (Pr.ex (i64 (i)))), (72, Pr.ifb (decide ((keyUse seed h i msg).2.2.1 = i + (((1 : Nat) : Int)))) (Pr.ex (Value.bool (decide ((keyUse seed h i msg).2.2.2.1 = i))))), (73, Pr.ex (Value.bool ((decide ((keyUse seed h i msg).2.2.1 = i + (((1 : Nat) : Int)))) && (decide ((keyUse seed h i msg).2.2.2.1 = i))))), (74, Pr.ex (Value.bool ((decide ((keyUse seed h i msg).2.2.1 = i + (((1 : Nat) : Int)))) && (decide ((keyUse seed h i msg).2.2.2.1 = i))))), (75, Pr.ifb ((decide ((keyUse seed h i msg).2.2.1 = i + (((1 : Nat) : Int)))) && (decide ((keyUse seed h i msg).2.2.2.1 = i))) (Pr.ex (Dg.val ((keyPub seed h).1)))), (76, Pr.ifb ((decide ((keyUse seed h i msg).2.2.1 = i + (((1 : Nat) : Int)))) && (decide ((keyUse seed h i msg).2.2.2.1 = i))) (Pr.ex (Dg.val (msg)))), (77, Pr.ifb ((decide ((keyUse seed h i msg).2.2.1 = i + (((1 : Nat) : Int)))) && (decide ((keyUse seed h i msg).2.2.2.1 = i))) (Pr.ex (Value.agg #[i64 ((keyUse seed h i msg).2.2.2.1), x28_0_5, x28_1_5]))), (78, Pr.ifb ((decide ((keyUse seed h i msg).2.2.1 = i + (((1 : Nat) : Int)))) && (decide ((keyUse seed h i msg).2.2.2.1 = i))) (Pr.ex (Value.bool (keyCheck ((keyPub seed h).1) msg ((keyUse seed h i msg).2.2.2.1) ((keyUse seed h i msg).2.2.2.2.1) ((keyUse seed h i msg).2.2.2.2.2.1))))), (79, Pr.ex (Value.bool (((decide ((keyUse seed h i msg).2.2.1 = i + (((1 : Nat) : Int)))) && (decide ((keyUse seed h i msg).2.2.2.1 = i))) && (keyCheck ((keyPub seed h).1) msg ((keyUse seed h i msg).2.2.2.1) ((keyUse seed h i msg).2.2.2.2.1) ((keyUse seed h i msg).2.2.2.2.2.1))))), (4, Pr.ex (Value.bool (((decide ((keyUse seed h i msg).2.2.1 = i + (((1 : Nat) : Int)))) && (decide ((keyUse seed h i msg).2.2.2.1 = i))) && (keyCheck ((keyPub seed h).1) msg ((keyUse seed h i msg).2.2.2.1) ((keyUse seed h i msg).2.2.2.2.1) ((keyUse seed h i msg).2.2.2.2.2.1)))))] 20 N22 D22 ?_ ?_
 refine Ac ?_ (Ac ?_ (Ac ?_ (Ac ?_ (Ac ?_ (Ac ?_ (Ac ?_ (Ac ?_ (Ac ?_ (Ac ?_ (Ac ?_ (Ac ?_ (Ac ?_ (Ac ?_ (Ac ?_ (Ac ?_ (Ac ?_ (Ac ?_ (Ac ?_ (Ac ?_ (Az _))))))))))))))))))))
 exact Ap fun aq wq _ hO hR hT => does_field (o' := 5) fld_30_2 (oT hO s5_22 rfl) rfl eR
 exact Ap fun aq wq _ hO hR hT => does_loadD1 (o := 5) (V := i64 ((keyUse seed h i msg).2.2.1)) (hT 61 rfl rfl) (B5_21.ext' hR) rfl one_3 eR
 exact Ap fun aq wq _ hO hR hT => does_field (o' := 5) fld_30_2 (oT hO s2_22 rfl) rfl eR
 exact Ap fun aq wq _ hO hR hT => does_loadD1 (o := 5) (V := i64 (i)) (hT 63 rfl rfl) (B2_21.ext' hR) rfl one_3 eR
 exact Ap fun aq wq _ hO hR hT => does_add (a := i) (b := ((1 : Nat) : Int)) (r := i + (((1 : Nat) : Int))) (hT 64 rfl rfl) rfl rfl (by omega) (by omega) eR
 exact Ap fun aq wq _ hO hR hT => does_eql (a := (keyUse seed h i msg).2.2.1) (b := i + (((1 : Nat) : Int))) (hT 62 rfl rfl) (hT 65 rfl rfl) eR
 exact Ap fun aq wq _ hO hR hT => does_move (V := Value.bool (decide ((keyUse seed h i msg).2.2.1 = i + (((1 : Nat) : Int))))) (hT 66 rfl rfl) eR
 refine Ask.guarded (B := decide ((keyUse seed h i msg).2.2.1 = i + (((1 : Nat) : Int)))) (want := true) (t := 67) rfl rfl rfl rfl (by decide) (fun aq wq hO hR hT => hT 67 rfl rfl) (fun hG aq wq hNq hO hR hT => ?_) (fun hno _ => fun hc => absurd hc hno)
 exact does_field (o' := 0) fld_37_0 (oT hO s6_22 rfl) rfl ⟨Ext.refl _, fun _ => rfl⟩
 refine Ask.guarded (B := decide ((keyUse seed h i msg).2.2.1 = i + (((1 : Nat) : Int)))) (want := true) (t := 67) rfl rfl rfl rfl (by decide) (fun aq wq hO hR hT => hT 67 rfl rfl) (fun hG aq wq hNq hO hR hT => ?_) (fun hno _ => fun hc => absurd hc hno)
 exact does_loadD1 (o := 0) (V := i64 ((keyUse seed h i msg).2.2.2.1)) (hT 68 rfl rfl hG) (B6_21.ext' hR) rfl one_3 ⟨Ext.refl _, fun _ => rfl⟩
 refine Ask.guarded (B := decide ((keyUse seed h i msg).2.2.1 = i + (((1 : Nat) : Int)))) (want := true) (t := 67) rfl rfl rfl rfl (by decide) (fun aq wq hO hR hT => hT 67 rfl rfl) (fun hG aq wq hNq hO hR hT => ?_) (fun hno _ => fun hc => absurd hc hno)
 exact does_field (o' := 5) fld_30_2 (oT hO s2_22 rfl) rfl ⟨Ext.refl _, fun _ => rfl⟩
 refine Ask.guarded (B := decide ((keyUse seed h i msg).2.2.1 = i + (((1 : Nat) : Int)))) (want := true) (t := 67) rfl rfl rfl rfl (by decide) (fun aq wq hO hR hT => hT 67 rfl rfl) (fun hG aq wq hNq hO hR hT => ?_) (fun hno _ => fun hc => absurd hc hno)
 exact does_loadD1 (o := 5) (V := i64 (i)) (hT 70 rfl rfl hG) (B2_21.ext' hR) rfl one_3 ⟨Ext.refl _, fun _ => rfl⟩
 refine Ask.guarded (B := decide ((keyUse seed h i msg).2.2.1 = i + (((1 : Nat) : Int)))) (want := true) (t := 67) rfl rfl rfl rfl (by decide) (fun aq wq hO hR hT => hT 67 rfl rfl) (fun hG aq wq hNq hO hR hT => ?_) (fun hno _ => fun hc => absurd hc hno)
 exact does_eql (a := (keyUse seed h i msg).2.2.2.1) (b := i) (hT 69 rfl rfl hG) (hT 71 rfl rfl hG) ⟨Ext.refl _, fun _ => rfl⟩
 exact Ap fun aq wq _ hO hR hT => does_and (B := decide ((keyUse seed h i msg).2.2.1 = i + (((1 : Nat) : Int)))) (X := decide ((keyUse seed h i msg).2.2.2.1 = i)) (hT 67 rfl rfl) (fun hB => (hT 72 rfl rfl hB)) rfl eR
 exact Ap fun aq wq _ hO hR hT => does_move (V := Value.bool ((decide ((keyUse seed h i msg).2.2.1 = i + (((1 : Nat) : Int)))) && (decide ((keyUse seed h i msg).2.2.2.1 = i)))) (hT 73 rfl rfl) eR
 refine Ask.guarded (B := (decide ((keyUse seed h i msg).2.2.1 = i + (((1 : Nat) : Int)))) && (decide ((keyUse seed h i msg).2.2.2.1 = i))) (want := true) (t := 74) rfl rfl rfl rfl (by decide) (fun aq wq hO hR hT => hT 74 rfl rfl) (fun hG aq wq hNq hO hR hT => ?_) (fun hno _ => fun hc => absurd hc hno)
 exact does_loadD (o := 0) (n := 4) (mid := [w32 ((keyPub seed h).1).a, w32 ((keyPub seed h).1).b, w32 ((keyPub seed h).1).c, w32 ((keyPub seed h).1).d]) (oT hO s11_22 rfl) (B11_21.ext' hR) rfl rfl (nB rfl) row_24 rfl ⟨Ext.refl _, fun _ => rfl⟩
 refine Ask.guarded (B := (decide ((keyUse seed h i msg).2.2.1 = i + (((1 : Nat) : Int)))) && (decide ((keyUse seed h i msg).2.2.2.1 = i))) (want := true) (t := 74) rfl rfl rfl rfl (by decide) (fun aq wq hO hR hT => hT 74 rfl rfl) (fun hG aq wq hNq hO hR hT => ?_) (fun hno _ => fun hc => absurd hc hno)
 exact does_loadD (o := 0) (n := 4) (mid := [w32 (msg).a, w32 (msg).b, w32 (msg).c, w32 (msg).d]) (oT hO s3_22 rfl) (B3_21.ext' hR) rfl rfl (nB rfl) row_24 rfl ⟨Ext.refl _, fun _ => rfl⟩
 refine Ask.guarded (B := (decide ((keyUse seed h i msg).2.2.1 = i + (((1 : Nat) : Int)))) && (decide ((keyUse seed h i msg).2.2.2.1 = i))) (want := true) (t := 74) rfl rfl rfl rfl (by decide) (fun aq wq hO hR hT => hT 74 rfl rfl) (fun hG aq wq hNq hO hR hT => ?_) (fun hno _ => fun hc => absurd hc hno)
 exact does_loadD (o := 0) (n := 3) (mid := [i64 ((keyUse seed h i msg).2.2.2.1), x28_0_5, x28_1_5]) (oT hO s6_22 rfl) (B6_21.ext' hR) rfl rfl (nB rfl) row_37 rfl ⟨Ext.refl _, fun _ => rfl⟩
 refine Ask.guarded (B := (decide ((keyUse seed h i msg).2.2.1 = i + (((1 : Nat) : Int)))) && (decide ((keyUse seed h i msg).2.2.2.1 = i))) (want := true) (t := 74) rfl rfl rfl rfl (by decide) (fun aq wq hO hR hT => hT 74 rfl rfl) (fun hG aq wq hNq hO hR hT => ?_) (fun hno _ => fun hc => absurd hc hno)
 exact does_ret (vs := #[Dg.val ((keyPub seed h).1), Dg.val (msg), Value.agg #[i64 ((keyUse seed h i msg).2.2.2.1), x28_0_5, x28_1_5]]) call_14 (args3 (hT 75 rfl rfl hG) (hT 76 rfl rfl hG) (hT 77 rfl rfl hG)) rfl ((keyCheck_ ((keyPub seed h).1) msg ((keyUse seed h i msg).2.2.2.1) ((keyUse seed h i msg).2.2.2.2.1) ((keyUse seed h i msg).2.2.2.2.2.1) (x28_0_5) (x28_1_5) wq (hL.ext (E21.trans hR)) ((X28_0_5_21.ext' hR).wide (Nat.zero_le _) (.inl rfl)) ((X28_1_5_21.ext' hR).wide (Nat.zero_le _) (.inl rfl)) (Nat.le_trans keyUse_len.1 (by decide)) (Nat.le_trans keyUse_len.2 (by decide))).mono fun v w2 h => ⟨h.2, fun _ => h.1⟩)
 exact Ap fun aq wq _ hO hR hT => does_and (B := (decide ((keyUse seed h i msg).2.2.1 = i + (((1 : Nat) : Int)))) && (decide ((keyUse seed h i msg).2.2.2.1 = i))) (X := keyCheck ((keyPub seed h).1) msg ((keyUse seed h i msg).2.2.2.1) ((keyUse seed h i msg).2.2.2.2.1) ((keyUse seed h i msg).2.2.2.2.2.1)) (hT 74 rfl rfl) (fun hB => (hT 78 rfl rfl hB)) rfl eR
 exact Ap fun aq wq _ hO hR hT => does_assign (V := Value.bool (((decide ((keyUse seed h i msg).2.2.1 = i + (((1 : Nat) : Int)))) && (decide ((keyUse seed h i msg).2.2.2.1 = i))) && (keyCheck ((keyPub seed h).1) msg ((keyUse seed h i msg).2.2.2.1) ((keyUse seed h i msg).2.2.2.2.1) ((keyUse seed h i msg).2.2.2.2.2.1)))) (hT 79 rfl rfl) eR
 intro a23 wd23 N23 D23 hO hR hA hU
 obtain ⟨_, _, _, _, _, _, _, _, _, _, _, _, _, _, _, _, _, _, _, t4, _⟩ := hA
 have E23 := E21.trans hR
 have B2_23 := B2_21.ext' hR
 have B3_23 := B3_21.ext' hR
 have B5_23 := B5_21.ext' hR
 have B6_23 := B6_21.ext' hR
 have B8_23 := B8_21.ext' hR
 have B9_23 := B9_21.ext' hR
 have B11_23 := B11_21.ext' hR
 have X28_0_5_23 := X28_0_5_21.ext' hR
 have X28_1_5_23 := X28_1_5_21.ext' hR
 have X35_0_11_23 := X35_0_11_21.ext' hR
 have X35_1_11_23 := X35_1_11_21.ext' hR
 have O28_0_5_23 := O28_0_5_21.ext' hR
 have O28_1_5_23 := O28_1_5_21.ext' hR
 have O35_0_11_23 := O35_0_11_21.ext' hR
 have O35_1_11_23 := O35_1_11_21.ext' hR
 have s4_23 : get a23 4 = Value.bool (((decide ((keyUse seed h i msg).2.2.1 = i + (((1 : Nat) : Int)))) && (decide ((keyUse seed h i msg).2.2.2.1 = i))) && (keyCheck ((keyPub seed h).1) msg ((keyUse seed h i msg).2.2.2.1) ((keyUse seed h i msg).2.2.2.2.1) ((keyUse seed h i msg).2.2.2.2.2.1))) := t4
 clear E21 N22 D22 s2_22 s3_22 s5_22 s6_22 s11_22 s12_22 B2_21 B3_21 B5_21 B6_21 B8_21 B9_21 B11_21 X28_0_5_21 X28_1_5_21 X35_0_11_21 X35_1_11_21 O28_0_5_21 O28_1_5_21 O35_0_11_21 O35_1_11_21
 refine tail_nil ?_
 refine wp_ret ?_
 refine res_one (V := Value.bool (((decide ((keyUse seed h i msg).2.2.1 = i + (((1 : Nat) : Int)))) && (decide ((keyUse seed h i msg).2.2.2.1 = i))) && (keyCheck ((keyPub seed h).1) msg ((keyUse seed h i msg).2.2.2.1) ((keyUse seed h i msg).2.2.2.2.1) ((keyUse seed h i msg).2.2.2.2.2.1)))) rfl D23 s4_23 ?_
 obtain ⟨n, rfl⟩ : ∃ n : Nat, h = n := ⟨h.toNat, by omega⟩
 obtain ⟨j, rfl⟩ : ∃ j : Nat, i = j := ⟨i.toNat, by omega⟩
 have hn4 : n ≤ 4 := by omega
 have hj : j < pw n := by have := hbi.2; rw [Int.toNat_natCast] at this; omega
 rw [keyUse_ok hn4 hj, keyPub_ok hn4]
 exact ⟨congrArg Value.bool (by simp [keyCheck_sign hn4 hj]), E23⟩

end Go.Proofs.YtaeohnkfmachfabDoor
