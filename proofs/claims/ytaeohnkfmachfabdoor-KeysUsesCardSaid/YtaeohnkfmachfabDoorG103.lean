/- The walks of functions of the program: printed. -/
import Derived.Test.YtaeohnkfmachfabDoorKB
import Derived.Test.YtaeohnkfmachfabDoorG102
import Derived.Test.YtaeohnkfmachfabDoorF0
set_option maxRecDepth 100000
namespace Go.Proofs.YtaeohnkfmachfabDoor
open Go Go.RowKit Sk Sd
theorem keyUseR (seed : Dg) (h i : Int) (msg : Dg) (w0 : World) :
    Gives Tryd.prog 12 #[Value.agg #[w32 (seed).a, w32 (seed).b, w32 (seed).c, w32 (seed).d, i64 (h), i64 (i)], Dg.val (msg)] w0 (Pr.t3 (Pr.ex (Value.agg #[w32 ((keyUse seed h i msg).1).a, w32 ((keyUse seed h i msg).1).b, w32 ((keyUse seed h i msg).1).c, w32 ((keyUse seed h i msg).1).d, i64 ((keyUse seed h i msg).2.1), i64 ((keyUse seed h i msg).2.2.1)])) (Pr.ag2 (fun x y => Value.agg #[i64 (keyUse seed h i msg).2.2.2.1, x, y]) (Pr.own' DG w0.heap.size 24 ((keyUse seed h i msg).2.2.2.2.1)) (Pr.own' DG w0.heap.size 24 ((keyUse seed h i msg).2.2.2.2.2.1))) (Pr.ex (i64 (((keyUse seed h i msg).2.2.2.2.2.2 : Nat) : Int)))) := by
 refine enter (N := 40) Tryd.func12 rfl rfl ?_
 intro a0 N0 D0 hA
 have s0_0 : get a0 0 = Value.agg #[w32 (seed).a, w32 (seed).b, w32 (seed).c, w32 (seed).d, i64 (h), i64 (i)] := hA 0 _ rfl
 have s1_0 : get a0 1 = Dg.val (msg) := hA 1 _ rfl
 clear hA
 have E0 : Ext w0 w0 := Ext.refl w0
 refine wp_seq ?_
 refine Rl [2, 3, 4, 5] [(2, Pr.box' w0.heap.size 30 [w32 (seed).a, w32 (seed).b, w32 (seed).c, w32 (seed).d, i64 (h), i64 (i)]), (3, Pr.box' w0.heap.size 24 [w32 (msg).a, w32 (msg).b, w32 (msg).c, w32 (msg).d]), (4, Pr.box' w0.heap.size 30 [w32 (Dg.zero).a, w32 (Dg.zero).b, w32 (Dg.zero).c, w32 (Dg.zero).d, i64 ((0 : Nat) : Int), i64 ((0 : Nat) : Int)]), (5, Pr.box' w0.heap.size 37 [i64 ((0 : Nat) : Int), Value.slice none 0 0, Value.slice none 0 0]), (6, Pr.ex (i64 ((0 : Nat) : Int)))] 5 N0 D0 ?_ ?_
 refine Ac ?_ (Ac ?_ (Ac ?_ (Ac ?_ (Ac ?_ (Az _)))))
 refine Ask.fresh rfl rfl ?_
 intro aq wq hNq hO hR hT
 exact does_box (V := Value.agg #[w32 (seed).a, w32 (seed).b, w32 (seed).c, w32 (seed).d, i64 (h), i64 (i)]) (oT hO s0_0 rfl) (fun b w2 he hlo hb => ⟨he, ⟨b, rfl, Nat.le_trans hR.size' hlo, hb⟩, ⟨b, rfl, hlo, hb.lt⟩⟩)
 refine Ask.fresh rfl rfl ?_
 intro aq wq hNq hO hR hT
 exact does_box (V := Dg.val (msg)) (oT hO s1_0 rfl) (fun b w2 he hlo hb => ⟨he, ⟨b, rfl, Nat.le_trans hR.size' hlo, hb⟩, ⟨b, rfl, hlo, hb.lt⟩⟩)
 refine Ask.fresh rfl rfl ?_
 intro aq wq hNq hO hR hT
 exact does_alloc zero_30 (fun b w2 he hlo hb => ⟨he, ⟨b, rfl, Nat.le_trans hR.size' hlo, hb⟩, ⟨b, rfl, hlo, hb.lt⟩⟩)
 refine Ask.fresh rfl rfl ?_
 intro aq wq hNq hO hR hT
 exact does_alloc zero_37 (fun b w2 he hlo hb => ⟨he, ⟨b, rfl, Nat.le_trans hR.size' hlo, hb⟩, ⟨b, rfl, hlo, hb.lt⟩⟩)
 exact Ap fun aq wq _ hO hR hT => does_assign (V := i64 ((0 : Nat) : Int)) rfl eR
 intro a1 wd1 N1 D1 hO hR hA hU
 obtain ⟨t2, t3, t4, t5, _, _⟩ := hA
 have E1 := E0.trans hR
 obtain ⟨b2, s2_1, lo_b2, B2_1⟩ := t2
 have fr_b2 : w0.heap.size ≤ b2 := Nat.le_trans E0.size' lo_b2
 obtain ⟨b3, s3_1, lo_b3, B3_1⟩ := t3
 have fr_b3 : w0.heap.size ≤ b3 := Nat.le_trans E0.size' lo_b3
 obtain ⟨b4, s4_1, lo_b4, B4_1⟩ := t4
 have fr_b4 : w0.heap.size ≤ b4 := Nat.le_trans E0.size' lo_b4
 obtain ⟨b5, s5_1, lo_b5, B5_1⟩ := t5
 have fr_b5 : w0.heap.size ≤ b5 := Nat.le_trans E0.size' lo_b5
 obtain ⟨u0, ⟨u1, ⟨u2, ⟨u3, _⟩⟩⟩⟩ := hU
 have ne_b2_b3 : b2 ≠ b3 := fun e => u0 3 (by decide) (by rw [s2_1, s3_1, e])
 have ne_b2_b4 : b2 ≠ b4 := fun e => u0 4 (by decide) (by rw [s2_1, s4_1, e])
 have ne_b2_b5 : b2 ≠ b5 := fun e => u0 5 (by decide) (by rw [s2_1, s5_1, e])
 have ne_b3_b4 : b3 ≠ b4 := fun e => u1 4 (by decide) (by rw [s3_1, s4_1, e])
 have ne_b3_b5 : b3 ≠ b5 := fun e => u1 5 (by decide) (by rw [s3_1, s5_1, e])
 have ne_b4_b5 : b4 ≠ b5 := fun e => u2 5 (by decide) (by rw [s4_1, s5_1, e])
 clear E0 N0 D0 s0_0 s1_0
 refine tail_nil ?_
 refine wp_seq ?_
 refine wp_seq ?_
 refine Rl [] [(9, Pr.ex (Value.pointer (some ⟨b2, 4, none⟩))), (10, Pr.ex (i64 (h))), (11, Pr.ex (Value.bool (decide (h < ((0 : Nat) : Int))))), (12, Pr.ex (Value.bool (decide (h < ((0 : Nat) : Int))))), (13, Pr.ifb (!(decide (h < ((0 : Nat) : Int)))) (Pr.ex (Value.pointer (some ⟨b2, 4, none⟩)))), (14, Pr.ifb (!(decide (h < ((0 : Nat) : Int)))) (Pr.ex (i64 (h)))), (15, Pr.ifb (!(decide (h < ((0 : Nat) : Int)))) (Pr.ex (Value.bool (decide (((4 : Nat) : Int) < h))))), (16, Pr.ex (Value.bool ((decide (h < ((0 : Nat) : Int))) || (decide (((4 : Nat) : Int) < h)))))] 8 N1 D1 ?_ ?_
 refine Ac ?_ (Ac ?_ (Ac ?_ (Ac ?_ (Ac ?_ (Ac ?_ (Ac ?_ (Ac ?_ (Az _))))))))
 exact Ap fun aq wq _ hO hR hT => does_field (o' := 4) fld_30_1 (oT hO s2_1 rfl) rfl eR
 exact Ap fun aq wq _ hO hR hT => does_loadD1 (o := 4) (V := i64 (h)) (hT 9 rfl rfl) (B2_1.ext' hR) rfl one_3 eR
 exact Ap fun aq wq _ hO hR hT => does_lss (a := h) (b := ((0 : Nat) : Int)) (hT 10 rfl rfl) rfl eR
 exact Ap fun aq wq _ hO hR hT => does_move (V := Value.bool (decide (h < ((0 : Nat) : Int)))) (hT 11 rfl rfl) eR
 refine Ask.guarded (B := decide (h < ((0 : Nat) : Int))) (want := false) (t := 12) rfl rfl rfl rfl (by decide) (fun aq wq hO hR hT => hT 12 rfl rfl) (fun hG aq wq hNq hO hR hT => ?_) (fun hno _ => fun hc => absurd (bn hc) hno)
 replace hG := nb hG
 exact does_field (o' := 4) fld_30_1 (oT hO s2_1 rfl) rfl ⟨Ext.refl _, fun _ => rfl⟩
 refine Ask.guarded (B := decide (h < ((0 : Nat) : Int))) (want := false) (t := 12) rfl rfl rfl rfl (by decide) (fun aq wq hO hR hT => hT 12 rfl rfl) (fun hG aq wq hNq hO hR hT => ?_) (fun hno _ => fun hc => absurd (bn hc) hno)
 replace hG := nb hG
 exact does_loadD1 (o := 4) (V := i64 (h)) (hT 13 rfl rfl hG) (B2_1.ext' hR) rfl one_3 ⟨Ext.refl _, fun _ => rfl⟩
 refine Ask.guarded (B := decide (h < ((0 : Nat) : Int))) (want := false) (t := 12) rfl rfl rfl rfl (by decide) (fun aq wq hO hR hT => hT 12 rfl rfl) (fun hG aq wq hNq hO hR hT => ?_) (fun hno _ => fun hc => absurd (bn hc) hno)
 replace hG := nb hG
 exact does_gtr (a := h) (b := ((4 : Nat) : Int)) (hT 14 rfl rfl hG) rfl ⟨Ext.refl _, fun _ => rfl⟩
 exact Ap fun aq wq _ hO hR hT => does_or (B := decide (h < ((0 : Nat) : Int))) (X := decide (((4 : Nat) : Int) < h)) (hT 12 rfl rfl) rfl (fun hB => (hT 15 rfl rfl (nb hB))) eR
 intro a2 wd2 N2 D2 hO hR hA hU
 obtain ⟨_, _, _, _, _, _, _, t16, _⟩ := hA
 have E2 := E1.trans hR
 have s2_2 := oT hO s2_1 rfl
 have s3_2 := oT hO s3_1 rfl
 have s4_2 := oT hO s4_1 rfl
 have s5_2 := oT hO s5_1 rfl
 have B2_2 := B2_1.ext' hR
 have B3_2 := B3_1.ext' hR
 have B4_2 := B4_1.ext' hR
 have B5_2 := B5_1.ext' hR
 have s16_2 : get a2 16 = Value.bool ((decide (h < ((0 : Nat) : Int))) || (decide (((4 : Nat) : Int) < h))) := t16
 clear E1 N1 D1 s2_1 s3_1 s4_1 s5_1 B2_1 B3_1 B4_1 B5_1
 refine tail_nil ?_
 refine wp_if (B := (decide (h < ((0 : Nat) : Int))) || (decide (((4 : Nat) : Int) < h))) s16_2 (fun hc0 => ?_) (fun hc0 => ?_)
 have hb : ¬ (0 ≤ h ∧ h ≤ 4) := by simp at hc0; omega
 refine wp_seq ?_
 refine Rl [] [(17, Pr.ex (Value.agg #[w32 (Dg.zero).a, w32 (Dg.zero).b, w32 (Dg.zero).c, w32 (Dg.zero).d, i64 ((0 : Nat) : Int), i64 ((0 : Nat) : Int)])), (18, Pr.ex (Value.agg #[i64 ((0 : Nat) : Int), Value.slice none 0 0, Value.slice none 0 0]))] 2 N2 D2 ?_ ?_
 refine Ac ?_ (Ac ?_ (Az _))
 exact Ap fun aq wq _ hO hR hT => does_build (vs := #[]) (V := Value.agg #[w32 (Dg.zero).a, w32 (Dg.zero).b, w32 (Dg.zero).c, w32 (Dg.zero).d, i64 ((0 : Nat) : Int), i64 ((0 : Nat) : Int)]) parts0 (by kernel_rfl) eR
 exact Ap fun aq wq _ hO hR hT => does_build (vs := #[]) (V := Value.agg #[i64 ((0 : Nat) : Int), Value.slice none 0 0, Value.slice none 0 0]) parts0 (by kernel_rfl) eR
 intro a3 wd3 N3 D3 hO hR hA hU
 obtain ⟨t17, t18, _⟩ := hA
 have E3 := E2.trans hR
 have s4_3 := oT hO s4_2 rfl
 have s5_3 := oT hO s5_2 rfl
 have B2_3 := B2_2.ext' hR
 have B3_3 := B3_2.ext' hR
 have B4_3 := B4_2.ext' hR
 have B5_3 := B5_2.ext' hR
 have s17_3 : get a3 17 = Value.agg #[w32 (Dg.zero).a, w32 (Dg.zero).b, w32 (Dg.zero).c, w32 (Dg.zero).d, i64 ((0 : Nat) : Int), i64 ((0 : Nat) : Int)] := t17
 have s18_3 : get a3 18 = Value.agg #[i64 ((0 : Nat) : Int), Value.slice none 0 0, Value.slice none 0 0] := t18
 clear E2 N2 D2 s2_2 s3_2 s4_2 s5_2 s16_2 B2_2 B3_2 B4_2 B5_2
 refine tail_none rfl rfl (does_storeD (o := 0) (n := 6) (cs' := [w32 (Dg.zero).a, w32 (Dg.zero).b, w32 (Dg.zero).c, w32 (Dg.zero).d, i64 ((0 : Nat) : Int), i64 ((0 : Nat) : Int)]) (V := Value.agg #[w32 (Dg.zero).a, w32 (Dg.zero).b, w32 (Dg.zero).c, w32 (Dg.zero).d, i64 ((0 : Nat) : Int), i64 ((0 : Nat) : Int)]) s4_3 s17_3 B4_3 (nB rfl) rfl siz_30 rfl rfl (fun wd4 hX hz B4_4 => ?_))
 have E4 := E3.since hX (fun k e => e ▸ fr_b4)
 have B2_4 := B2_3.ext hX ne_b2_b4
 have B3_4 := B3_3.ext hX ne_b3_b4
 have B5_4 := B5_3.ext hX ne_b4_b5.symm
 clear hX hz E3 B2_3 B3_3 B4_3 B5_3
 refine tail_none rfl rfl (does_storeD (o := 0) (n := 3) (cs' := [i64 ((0 : Nat) : Int), Value.slice none 0 0, Value.slice none 0 0]) (V := Value.agg #[i64 ((0 : Nat) : Int), Value.slice none 0 0, Value.slice none 0 0]) s5_3 s18_3 B5_4 (nB rfl) rfl siz_37 rfl rfl (fun wd5 hX hz B5_5 => ?_))
 have E5 := E4.since hX (fun k e => e ▸ fr_b5)
 have B2_5 := B2_4.ext hX ne_b2_b5
 have B3_5 := B3_4.ext hX ne_b3_b5
 have B4_5 := B4_4.ext hX ne_b4_b5
 clear hX hz E4 B2_4 B3_4 B4_4 B5_4
 refine tail_put rfl rfl N3 D3 (by decide) (does_assign (V := i64 ((2 : Nat) : Int)) rfl (fun a6 N6 D6 hv hO => ?_))
 have s6_6 := hv
 have s4_6 := oT hO s4_3 rfl
 have s5_6 := oT hO s5_3 rfl
 clear hO hv N3 D3 s4_3 s5_3 s17_3 s18_3
 refine tail_nil ?_
 refine wp_ret ?_
 refine res_three (V1 := Value.agg #[w32 (Dg.zero).a, w32 (Dg.zero).b, w32 (Dg.zero).c, w32 (Dg.zero).d, i64 ((0 : Nat) : Int), i64 ((0 : Nat) : Int)]) (V2 := Value.agg #[i64 ((0 : Nat) : Int), Value.slice none 0 0, Value.slice none 0 0]) (V3 := i64 ((2 : Nat) : Int)) rfl D6 (ResIs.cell s4_6 B4_5 row_30 rfl rfl) (ResIs.cell s5_6 B5_5 row_37 rfl rfl) s6_6 ?_
 rw [keyUse_no hb]
 exact ⟨⟨_, _, _, rfl, rfl, ⟨_, _, rfl, OwnT.nil DG _ 24 _, OwnT.nil DG _ 24 _⟩, rfl⟩, E5⟩
 have hb : 0 ≤ h ∧ h ≤ 4 := by simp at hc0; omega
 refine wp_skip ?_
 refine wp_seq ?_
 refine Rl [] [(20, Pr.ex (Value.pointer (some ⟨b2, 0, none⟩))), (21, Pr.ex (Dg.val (seed))), (22, Pr.ex (Value.pointer (some ⟨b2, 4, none⟩))), (23, Pr.ex (i64 (h))), (24, Pr.ex (Value.pointer (some ⟨b2, 5, none⟩))), (25, Pr.ex (i64 (i))), (26, Pr.ex (Dg.val (msg))), (27, Pr.t2 (Pr.ag2 (fun x y => Value.agg #[i64 ((keySign seed h i msg).1), x, y]) (Pr.own' DG wd2.heap.size 24 ((keySign seed h i msg).2.1)) (Pr.own' DG wd2.heap.size 24 ((keySign seed h i msg).2.2.1))) (Pr.ex (i64 (((keySign seed h i msg).2.2.2 : Nat) : Int)))), (19, Pr.t2 (Pr.ag2 (fun x y => Value.agg #[i64 ((keySign seed h i msg).1), x, y]) (Pr.own' DG wd2.heap.size 24 ((keySign seed h i msg).2.1)) (Pr.own' DG wd2.heap.size 24 ((keySign seed h i msg).2.2.1))) (Pr.ex (i64 (((keySign seed h i msg).2.2.2 : Nat) : Int)))), (28, Pr.ag2 (fun x y => Value.agg #[i64 ((keySign seed h i msg).1), x, y]) (Pr.own' DG wd2.heap.size 24 ((keySign seed h i msg).2.1)) (Pr.own' DG wd2.heap.size 24 ((keySign seed h i msg).2.2.1))), (29, Pr.ex (i64 (((keySign seed h i msg).2.2.2 : Nat) : Int)))] 11 N2 D2 ?_ ?_
 refine Ac ?_ (Ac ?_ (Ac ?_ (Ac ?_ (Ac ?_ (Ac ?_ (Ac ?_ (Ac ?_ (Ac ?_ (Ac ?_ (Ac ?_ (Az _)))))))))))
 exact Ap fun aq wq _ hO hR hT => does_field (o' := 0) fld_30_0 (oT hO s2_2 rfl) rfl eR
 exact Ap fun aq wq _ hO hR hT => does_loadD (o := 0) (n := 4) (mid := [w32 (seed).a, w32 (seed).b, w32 (seed).c, w32 (seed).d]) (hT 20 rfl rfl) (B2_2.ext' hR) rfl rfl (nB rfl) row_24 rfl eR
 exact Ap fun aq wq _ hO hR hT => does_field (o' := 4) fld_30_1 (oT hO s2_2 rfl) rfl eR
 exact Ap fun aq wq _ hO hR hT => does_loadD1 (o := 4) (V := i64 (h)) (hT 22 rfl rfl) (B2_2.ext' hR) rfl one_3 eR
 exact Ap fun aq wq _ hO hR hT => does_field (o' := 5) fld_30_2 (oT hO s2_2 rfl) rfl eR
 exact Ap fun aq wq _ hO hR hT => does_loadD1 (o := 5) (V := i64 (i)) (hT 24 rfl rfl) (B2_2.ext' hR) rfl one_3 eR
 exact Ap fun aq wq _ hO hR hT => does_loadD (o := 0) (n := 4) (mid := [w32 (msg).a, w32 (msg).b, w32 (msg).c, w32 (msg).d]) (oT hO s3_2 rfl) (B3_2.ext' hR) rfl rfl (nB rfl) row_24 rfl eR
 exact Ap fun aq wq _ hO hR hT => does_ret (vs := #[Dg.val (seed), i64 (h), i64 (i), Dg.val (msg)]) call_27 (args4 (hT 21 rfl rfl) (hT 23 rfl rfl) (hT 25 rfl rfl) (hT 26 rfl rfl)) rfl ((keySignR seed h i msg wq).mono fun v w2 h => ⟨h.2, by obtain ⟨x0, x1, hv, k0, k1⟩ := h.1; exact ⟨x0, x1, hv, (by obtain ⟨z0, z1, hz, kz0, kz1⟩ := k0; exact ⟨z0, z1, hz, OwnT.base kz0 hR.size', OwnT.base kz1 hR.size'⟩), k1⟩⟩)
 exact Ap fun aq wq _ hO hR hT => does_move rfl ⟨Ext.refl _, (hT 27 rfl rfl)⟩
 exact Ap fun aq wq _ hO hR hT => by
  obtain ⟨x0, x1, hv, k0, k1⟩ := (hT 19 rfl rfl)
  exact does_extract hv rfl ⟨Ext.refl _, k0⟩
 exact Ap fun aq wq _ hO hR hT => by
  obtain ⟨x0, x1, hv, k0, k1⟩ := (hT 19 rfl rfl)
  exact does_extract (V := i64 (((keySign seed h i msg).2.2.2 : Nat) : Int)) hv (by rw [show x1 = i64 (((keySign seed h i msg).2.2.2 : Nat) : Int) from k1]; rfl) ⟨Ext.refl _, rfl⟩
 intro a7 wd7 N7 D7 hO hR hA hU
 obtain ⟨_, _, _, _, _, _, _, _, _, t28, t29, _⟩ := hA
 have E7 := E2.trans hR
 have s2_7 := oT hO s2_2 rfl
 have s4_7 := oT hO s4_2 rfl
 have s5_7 := oT hO s5_2 rfl
 have B2_7 := B2_2.ext' hR
 have B3_7 := B3_2.ext' hR
 have B4_7 := B4_2.ext' hR
 have B5_7 := B5_2.ext' hR
 obtain ⟨x28_0_7, x28_1_7, s28_7, ky28_0_7, ky28_1_7⟩ := t28
 replace ky28_0_7 : OwnT DG wd2.heap.size 24 ((keySign seed h i msg).2.1) x28_0_7 wd7 := ky28_0_7
 have nbo_x28_0_7_b2 := Ob1 ky28_0_7 B2_2
 have nbo_x28_0_7_b3 := Ob1 ky28_0_7 B3_2
 have nbo_x28_0_7_b4 := Ob1 ky28_0_7 B4_2
 have nbo_x28_0_7_b5 := Ob1 ky28_0_7 B5_2
 have X28_0_7_7 := ky28_0_7.sl.wide (Nat.zero_le _) (.inl rfl)
 have O28_0_7_7 := OwnT.base ky28_0_7 E2.size'
 replace ky28_1_7 : OwnT DG wd2.heap.size 24 ((keySign seed h i msg).2.2.1) x28_1_7 wd7 := ky28_1_7
 have nbo_x28_1_7_b2 := Ob1 ky28_1_7 B2_2
 have nbo_x28_1_7_b3 := Ob1 ky28_1_7 B3_2
 have nbo_x28_1_7_b4 := Ob1 ky28_1_7 B4_2
 have nbo_x28_1_7_b5 := Ob1 ky28_1_7 B5_2
 have X28_1_7_7 := ky28_1_7.sl.wide (Nat.zero_le _) (.inl rfl)
 have O28_1_7_7 := OwnT.base ky28_1_7 E2.size'
 have s29_7 : get a7 29 = i64 (((keySign seed h i msg).2.2.2 : Nat) : Int) := t29
 clear E2 N2 D2 s2_2 s3_2 s4_2 s5_2 s16_2 B2_2 B3_2 B4_2 B5_2
 refine tail_put rfl rfl N7 D7 (by decide) (does_alloc zero_37 (fun b7 wd8 he lo_b7 B7_8 => fun a8 N8 D8 hv hO => ?_))
 have s7_8 := hv
 have E8 := E7.trans he
 have B2_8 := B2_7.ext' he
 have B3_8 := B3_7.ext' he
 have B4_8 := B4_7.ext' he
 have B5_8 := B5_7.ext' he
 have X28_0_7_8 := X28_0_7_7.ext' he
 have X28_1_7_8 := X28_1_7_7.ext' he
 have O28_0_7_8 := O28_0_7_7.ext' he
 have O28_1_7_8 := O28_1_7_7.ext' he
 have fr_b7 : w0.heap.size ≤ b7 := Nat.le_trans E7.size' lo_b7
 have ne_b2_b7 := Hl B2_7 lo_b7
 have ne_b3_b7 := Hl B3_7 lo_b7
 have ne_b4_b7 := Hl B4_7 lo_b7
 have ne_b5_b7 := Hl B5_7 lo_b7
 have nb_x28_0_7_b7 := SlT.old X28_0_7_7 lo_b7
 have nb_x28_1_7_b7 := SlT.old X28_1_7_7 lo_b7
 have nbo_x28_0_7_b7 := Ol O28_0_7_7 lo_b7
 have nbo_x28_1_7_b7 := Ol O28_1_7_7 lo_b7
 have s2_8 := oT hO s2_7 rfl
 have s4_8 := oT hO s4_7 rfl
 have s5_8 := oT hO s5_7 rfl
 have s28_8 := oT hO s28_7 rfl
 have s29_8 := oT hO s29_7 rfl
 clear hO hv N7 D7 E7 B2_7 B3_7 B4_7 B5_7 X28_0_7_7 X28_1_7_7 O28_0_7_7 O28_1_7_7 s2_7 s4_7 s5_7 s28_7 s29_7
 refine tail_none rfl rfl (does_storeD (o := 0) (n := 3) (cs' := [i64 ((keySign seed h i msg).1), x28_0_7, x28_1_7]) (V := Value.agg #[i64 ((keySign seed h i msg).1), x28_0_7, x28_1_7]) s7_8 s28_8 B7_8 (nB rfl) rfl siz_37 (one_cons rfl (one_cons (SlT.one X28_0_7_8) (one_cons (SlT.one X28_1_7_8) one_nil))) rfl (fun wd9 hX hz B7_9 => ?_))
 have E9 := E8.since hX (fun k e => e ▸ fr_b7)
 have B2_9 := B2_8.ext hX ne_b2_b7
 have B3_9 := B3_8.ext hX ne_b3_b7
 have B4_9 := B4_8.ext hX ne_b4_b7
 have B5_9 := B5_8.ext hX ne_b5_b7
 have X28_0_7_9 := SlT.over X28_0_7_8 hX nb_x28_0_7_b7
 have X28_1_7_9 := SlT.over X28_1_7_8 hX nb_x28_1_7_b7
 have O28_0_7_9 := OwnT.ext O28_0_7_8 hX (fun k hk e => nbo_x28_0_7_b7 (e ▸ hk))
 have O28_1_7_9 := OwnT.ext O28_1_7_8 hX (fun k hk e => nbo_x28_1_7_b7 (e ▸ hk))
 clear hX hz E8 B2_8 B3_8 B4_8 B5_8 B7_8 X28_0_7_8 X28_1_7_8 O28_0_7_8 O28_1_7_8
 refine tail_put rfl rfl N8 D8 (by decide) (does_assign (V := i64 (((keySign seed h i msg).2.2.2 : Nat) : Int)) s29_8 (fun a10 N10 D10 hv hO => ?_))
 have s8_10 := hv
 have s2_10 := oT hO s2_8 rfl
 have s4_10 := oT hO s4_8 rfl
 have s5_10 := oT hO s5_8 rfl
 have s7_10 := oT hO s7_8 rfl
 clear hO hv N8 D8 s2_8 s4_8 s5_8 s7_8 s28_8 s29_8
 refine tail_nil ?_
 refine wp_seq ?_
 refine wp_seq ?_
 refine Rl [] [(30, Pr.ex (i64 (((keySign seed h i msg).2.2.2 : Nat) : Int))), (31, Pr.ex (Value.bool (!decide ((((keySign seed h i msg).2.2.2 : Nat) : Int) = ((0 : Nat) : Int)))))] 2 N10 D10 ?_ ?_
 refine Ac ?_ (Ac ?_ (Az _))
 exact Am s8_10 rfl fun _ => rfl
 exact Ap fun aq wq _ hO hR hT => does_neq (a := (((keySign seed h i msg).2.2.2 : Nat) : Int)) (b := ((0 : Nat) : Int)) (hT 30 rfl rfl) rfl eR
 intro a11 wd11 N11 D11 hO hR hA hU
 obtain ⟨_, t31, _⟩ := hA
 have E11 := E9.trans hR
 have s2_11 := oT hO s2_10 rfl
 have s4_11 := oT hO s4_10 rfl
 have s5_11 := oT hO s5_10 rfl
 have s7_11 := oT hO s7_10 rfl
 have B2_11 := B2_9.ext' hR
 have B3_11 := B3_9.ext' hR
 have B4_11 := B4_9.ext' hR
 have B5_11 := B5_9.ext' hR
 have B7_11 := B7_9.ext' hR
 have X28_0_7_11 := X28_0_7_9.ext' hR
 have X28_1_7_11 := X28_1_7_9.ext' hR
 have O28_0_7_11 := O28_0_7_9.ext' hR
 have O28_1_7_11 := O28_1_7_9.ext' hR
 have s31_11 : get a11 31 = Value.bool (!decide ((((keySign seed h i msg).2.2.2 : Nat) : Int) = ((0 : Nat) : Int))) := t31
 clear E9 N10 D10 s2_10 s4_10 s5_10 s7_10 s8_10 B2_9 B3_9 B4_9 B5_9 B7_9 X28_0_7_9 X28_1_7_9 O28_0_7_9 O28_1_7_9
 refine tail_nil ?_
 refine wp_if (B := !decide ((((keySign seed h i msg).2.2.2 : Nat) : Int) = ((0 : Nat) : Int))) s31_11 (fun hc1 => ?_) (fun hc1 => ?_)
 have hc1 := of_decide_eq_false (bn hc1)
 have hbi : ¬ (0 ≤ i ∧ i < ((pw h.toNat : Nat) : Int)) := fun h2 => hc1 (by rw [keySign_err.2 ⟨hb, h2⟩])
 refine wp_seq ?_
 refine Rl [] [(32, Pr.ex (Value.agg #[w32 (Dg.zero).a, w32 (Dg.zero).b, w32 (Dg.zero).c, w32 (Dg.zero).d, i64 ((0 : Nat) : Int), i64 ((0 : Nat) : Int)])), (33, Pr.ex (Value.agg #[i64 ((0 : Nat) : Int), Value.slice none 0 0, Value.slice none 0 0]))] 2 N11 D11 ?_ ?_
 refine Ac ?_ (Ac ?_ (Az _))
 exact Ap fun aq wq _ hO hR hT => does_build (vs := #[]) (V := Value.agg #[w32 (Dg.zero).a, w32 (Dg.zero).b, w32 (Dg.zero).c, w32 (Dg.zero).d, i64 ((0 : Nat) : Int), i64 ((0 : Nat) : Int)]) parts0 (by kernel_rfl) eR
 exact Ap fun aq wq _ hO hR hT => does_build (vs := #[]) (V := Value.agg #[i64 ((0 : Nat) : Int), Value.slice none 0 0, Value.slice none 0 0]) parts0 (by kernel_rfl) eR
 intro a12 wd12 N12 D12 hO hR hA hU
 obtain ⟨t32, t33, _⟩ := hA
 have E12 := E11.trans hR
 have s4_12 := oT hO s4_11 rfl
 have s5_12 := oT hO s5_11 rfl
 have B2_12 := B2_11.ext' hR
 have B3_12 := B3_11.ext' hR
 have B4_12 := B4_11.ext' hR
 have B5_12 := B5_11.ext' hR
 have B7_12 := B7_11.ext' hR
 have X28_0_7_12 := X28_0_7_11.ext' hR
 have X28_1_7_12 := X28_1_7_11.ext' hR
 have O28_0_7_12 := O28_0_7_11.ext' hR
 have O28_1_7_12 := O28_1_7_11.ext' hR
 have s32_12 : get a12 32 = Value.agg #[w32 (Dg.zero).a, w32 (Dg.zero).b, w32 (Dg.zero).c, w32 (Dg.zero).d, i64 ((0 : Nat) : Int), i64 ((0 : Nat) : Int)] := t32
 have s33_12 : get a12 33 = Value.agg #[i64 ((0 : Nat) : Int), Value.slice none 0 0, Value.slice none 0 0] := t33
 clear E11 N11 D11 s2_11 s4_11 s5_11 s7_11 s31_11 B2_11 B3_11 B4_11 B5_11 B7_11 X28_0_7_11 X28_1_7_11 O28_0_7_11 O28_1_7_11
 refine tail_none rfl rfl (does_storeD (o := 0) (n := 6) (cs' := [w32 (Dg.zero).a, w32 (Dg.zero).b, w32 (Dg.zero).c, w32 (Dg.zero).d, i64 ((0 : Nat) : Int), i64 ((0 : Nat) : Int)]) (V := Value.agg #[w32 (Dg.zero).a, w32 (Dg.zero).b, w32 (Dg.zero).c, w32 (Dg.zero).d, i64 ((0 : Nat) : Int), i64 ((0 : Nat) : Int)]) s4_12 s32_12 B4_12 (nB rfl) rfl siz_30 rfl rfl (fun wd13 hX hz B4_13 => ?_))
 have E13 := E12.since hX (fun k e => e ▸ fr_b4)
 have B2_13 := B2_12.ext hX ne_b2_b4
 have B3_13 := B3_12.ext hX ne_b3_b4
 have B5_13 := B5_12.ext hX ne_b4_b5.symm
 have B7_13 := B7_12.ext hX ne_b4_b7.symm
 have X28_0_7_13 := SlT.over X28_0_7_12 hX (fun _ => nbo_x28_0_7_b4)
 have X28_1_7_13 := SlT.over X28_1_7_12 hX (fun _ => nbo_x28_1_7_b4)
 have O28_0_7_13 := OwnT.ext O28_0_7_12 hX (fun k hk e => nbo_x28_0_7_b4 (e ▸ hk))
 have O28_1_7_13 := OwnT.ext O28_1_7_12 hX (fun k hk e => nbo_x28_1_7_b4 (e ▸ hk))
 clear hX hz E12 B2_12 B3_12 B4_12 B5_12 B7_12 X28_0_7_12 X28_1_7_12 O28_0_7_12 O28_1_7_12
 refine tail_none rfl rfl (does_storeD (o := 0) (n := 3) (cs' := [i64 ((0 : Nat) : Int), Value.slice none 0 0, Value.slice none 0 0]) (V := Value.agg #[i64 ((0 : Nat) : Int), Value.slice none 0 0, Value.slice none 0 0]) s5_12 s33_12 B5_13 (nB rfl) rfl siz_37 rfl rfl (fun wd14 hX hz B5_14 => ?_))
 have E14 := E13.since hX (fun k e => e ▸ fr_b5)
 have B2_14 := B2_13.ext hX ne_b2_b5
 have B3_14 := B3_13.ext hX ne_b3_b5
 have B4_14 := B4_13.ext hX ne_b4_b5
 have B7_14 := B7_13.ext hX ne_b5_b7.symm
 have X28_0_7_14 := SlT.over X28_0_7_13 hX (fun _ => nbo_x28_0_7_b5)
 have X28_1_7_14 := SlT.over X28_1_7_13 hX (fun _ => nbo_x28_1_7_b5)
 have O28_0_7_14 := OwnT.ext O28_0_7_13 hX (fun k hk e => nbo_x28_0_7_b5 (e ▸ hk))
 have O28_1_7_14 := OwnT.ext O28_1_7_13 hX (fun k hk e => nbo_x28_1_7_b5 (e ▸ hk))
 clear hX hz E13 B2_13 B3_13 B4_13 B5_13 B7_13 X28_0_7_13 X28_1_7_13 O28_0_7_13 O28_1_7_13
 refine tail_put rfl rfl N12 D12 (by decide) (does_assign (V := i64 ((9 : Nat) : Int)) rfl (fun a15 N15 D15 hv hO => ?_))
 have s6_15 := hv
 have s4_15 := oT hO s4_12 rfl
 have s5_15 := oT hO s5_12 rfl
 clear hO hv N12 D12 s4_12 s5_12 s32_12 s33_12
 refine tail_nil ?_
 refine wp_ret ?_
 refine res_three (V1 := Value.agg #[w32 (Dg.zero).a, w32 (Dg.zero).b, w32 (Dg.zero).c, w32 (Dg.zero).d, i64 ((0 : Nat) : Int), i64 ((0 : Nat) : Int)]) (V2 := Value.agg #[i64 ((0 : Nat) : Int), Value.slice none 0 0, Value.slice none 0 0]) (V3 := i64 ((9 : Nat) : Int)) rfl D15 (ResIs.cell s4_15 B4_14 row_30 rfl rfl) (ResIs.cell s5_15 B5_14 row_37 rfl rfl) s6_15 ?_
 rw [keyUse_argI hb hbi]
 exact ⟨⟨_, _, _, rfl, rfl, ⟨_, _, rfl, OwnT.nil DG _ 24 _, OwnT.nil DG _ 24 _⟩, rfl⟩, E14⟩
 have hc1 := of_decide_eq_true (bn' hc1)
 have hbi : 0 ≤ i ∧ i < ((pw h.toNat : Nat) : Int) := ((keySign_err (seed := seed) (msg := msg) (h := h) (i := i)).1 (by omega)).2
 have hp16 := pw_toNat hb
 refine wp_skip ?_
 refine wp_seq ?_
 refine Rl [] [(34, Pr.ex (Value.pointer (some ⟨b2, 5, none⟩))), (35, Pr.ex (i64 (i))), (36, Pr.ex (i64 (i + (((1 : Nat) : Int))))), (37, Pr.ex (Value.pointer (some ⟨b2, 5, none⟩)))] 4 N11 D11 ?_ ?_
 refine Ac ?_ (Ac ?_ (Ac ?_ (Ac ?_ (Az _))))
 exact Ap fun aq wq _ hO hR hT => does_field (o' := 5) fld_30_2 (oT hO s2_11 rfl) rfl eR
 exact Ap fun aq wq _ hO hR hT => does_loadD1 (o := 5) (V := i64 (i)) (hT 34 rfl rfl) (B2_11.ext' hR) rfl one_3 eR
 exact Ap fun aq wq _ hO hR hT => does_add (a := i) (b := ((1 : Nat) : Int)) (r := i + (((1 : Nat) : Int))) (hT 35 rfl rfl) rfl rfl (by omega) (by omega) eR
 exact Ap fun aq wq _ hO hR hT => does_field (o' := 5) fld_30_2 (oT hO s2_11 rfl) rfl eR
 intro a16 wd16 N16 D16 hO hR hA hU
 obtain ⟨_, _, t36, t37, _⟩ := hA
 have E16 := E11.trans hR
 have s2_16 := oT hO s2_11 rfl
 have s4_16 := oT hO s4_11 rfl
 have s5_16 := oT hO s5_11 rfl
 have s7_16 := oT hO s7_11 rfl
 have B2_16 := B2_11.ext' hR
 have B3_16 := B3_11.ext' hR
 have B4_16 := B4_11.ext' hR
 have B5_16 := B5_11.ext' hR
 have B7_16 := B7_11.ext' hR
 have X28_0_7_16 := X28_0_7_11.ext' hR
 have X28_1_7_16 := X28_1_7_11.ext' hR
 have O28_0_7_16 := O28_0_7_11.ext' hR
 have O28_1_7_16 := O28_1_7_11.ext' hR
 have s36_16 : get a16 36 = i64 (i + (((1 : Nat) : Int))) := t36
 have s37_16 : get a16 37 = Value.pointer (some ⟨b2, 5, none⟩) := t37
 clear E11 N11 D11 s2_11 s4_11 s5_11 s7_11 s31_11 B2_11 B3_11 B4_11 B5_11 B7_11 X28_0_7_11 X28_1_7_11 O28_0_7_11 O28_1_7_11
 refine tail_none rfl rfl (does_storeD (o := 5) (n := 1) (cs' := [w32 (seed).a, w32 (seed).b, w32 (seed).c, w32 (seed).d, i64 (h), i64 (i + (((1 : Nat) : Int)))]) (V := i64 (i + (((1 : Nat) : Int)))) s37_16 s36_16 B2_16 (nB rfl) rfl siz_3 rfl rfl (fun wd17 hX hz B2_17 => ?_))
 have E17 := E16.since hX (fun k e => e ▸ fr_b2)
 have B3_17 := B3_16.ext hX ne_b2_b3.symm
 have B4_17 := B4_16.ext hX ne_b2_b4.symm
 have B5_17 := B5_16.ext hX ne_b2_b5.symm
 have B7_17 := B7_16.ext hX ne_b2_b7.symm
 have X28_0_7_17 := SlT.over X28_0_7_16 hX (fun _ => nbo_x28_0_7_b2)
 have X28_1_7_17 := SlT.over X28_1_7_16 hX (fun _ => nbo_x28_1_7_b2)
 have O28_0_7_17 := OwnT.ext O28_0_7_16 hX (fun k hk e => nbo_x28_0_7_b2 (e ▸ hk))
 have O28_1_7_17 := OwnT.ext O28_1_7_16 hX (fun k hk e => nbo_x28_1_7_b2 (e ▸ hk))
 clear hX hz E16 B2_16 B3_16 B4_16 B5_16 B7_16 X28_0_7_16 X28_1_7_16 O28_0_7_16 O28_1_7_16
 refine tail_nil ?_
 refine wp_seq ?_
 refine region_late [] [(38, Pr.ex (Value.agg #[w32 (seed).a, w32 (seed).b, w32 (seed).c, w32 (seed).d, i64 (h), i64 (i + (((1 : Nat) : Int)))])), (39, Pr.ex (Value.agg #[i64 ((keySign seed h i msg).1), x28_0_7, x28_1_7]))] 2 [1] (fun k => k = b5 ∨ k = b4) mixed N16 D16 (by kernel_rfl) (by kernel_rfl) (by kernel_rfl) (by kernel_rfl) (fun d v c a w h => by cases d <;> exact h) ?_ ?_ ?_
 refine Ac ?_ (Ac ?_ (Az _))
 exact Ad fun aq wq _ hO hR hT => does_loadD (o := 0) (n := 6) (mid := [w32 (seed).a, w32 (seed).b, w32 (seed).c, w32 (seed).d, i64 (h), i64 (i + (((1 : Nat) : Int)))]) (oT hO s2_16 rfl) (B2_17.ext' hR) rfl rfl (nB rfl) row_30 rfl eR
 exact Ad fun aq wq _ hO hR hT => does_loadD (o := 0) (n := 3) (mid := [i64 ((keySign seed h i msg).1), x28_0_7, x28_1_7]) (oT hO s7_16 rfl) (B7_17.ext' hR) rfl rfl (nB rfl) row_37 rfl eR
 refine LateAsks.cons rfl rfl rfl ?_ LateAsks.nil
 intro aq wq hO hR hT
 have hR0 := hR
 replace hR := (Ext.drew _).trans hR
 exact ⟨_, yl_loadD (o := 0) (n := 3) (mid := [i64 ((keySign seed h i msg).1), x28_0_7, x28_1_7]) (oT hO s7_16 rfl) B7_17 (fun e => e.elim ne_b5_b7.symm ne_b4_b7.symm) rfl rfl (nB rfl) row_37 rfl, rfl⟩
 intro wl hwl hwh a18 wd18 N18 D18 hO hR hA hU
 have hS_18 : ExtE (fun k => k = b5 ∨ k = b4) wl wd18 := hR.toE
 replace hR := hwl.trans hR
 obtain ⟨t38, t39, _⟩ := hA
 have E18 := E17.trans hR
 have s4_18 := oT hO s4_16 rfl
 have s5_18 := oT hO s5_16 rfl
 have B2_18 := B2_17.ext' hR
 have B3_18 := B3_17.ext' hR
 have B4_18 := B4_17.ext' hR
 have B5_18 := B5_17.ext' hR
 have B7_18 := B7_17.ext' hR
 have X28_0_7_18 := X28_0_7_17.ext' hR
 have X28_1_7_18 := X28_1_7_17.ext' hR
 have O28_0_7_18 := O28_0_7_17.ext' hR
 have O28_1_7_18 := O28_1_7_17.ext' hR
 have s38_18 : get a18 38 = Value.agg #[w32 (seed).a, w32 (seed).b, w32 (seed).c, w32 (seed).d, i64 (h), i64 (i + (((1 : Nat) : Int)))] := t38
 have s39_18 : get a18 39 = Value.agg #[i64 ((keySign seed h i msg).1), x28_0_7, x28_1_7] := t39
 clear E17 N16 D16 s2_16 s4_16 s5_16 s7_16 s36_16 s37_16 B2_17 B3_17 B4_17 B5_17 B7_17 X28_0_7_17 X28_1_7_17 O28_0_7_17 O28_1_7_17
 refine tailS_none rfl rfl (does_storeD (o := 0) (n := 6) (cs' := [w32 (seed).a, w32 (seed).b, w32 (seed).c, w32 (seed).d, i64 (h), i64 (i + (((1 : Nat) : Int)))]) (V := Value.agg #[w32 (seed).a, w32 (seed).b, w32 (seed).c, w32 (seed).d, i64 (h), i64 (i + (((1 : Nat) : Int)))]) s4_18 s38_18 B4_18 (nB rfl) rfl siz_30 rfl rfl (fun wd19 hX hz B4_19 => ⟨hS_18.trans (hX.mono fun k _ e => (.inr e)), ?_⟩))
 have hS_19 := hS_18.trans (hX.mono (E' := (fun k => k = b5 ∨ k = b4)) fun k _ e => (.inr e))
 have E19 := E18.since hX (fun k e => e ▸ fr_b4)
 have B2_19 := B2_18.ext hX ne_b2_b4
 have B3_19 := B3_18.ext hX ne_b3_b4
 have B5_19 := B5_18.ext hX ne_b4_b5.symm
 have B7_19 := B7_18.ext hX ne_b4_b7.symm
 have X28_0_7_19 := SlT.over X28_0_7_18 hX (fun _ => nbo_x28_0_7_b4)
 have X28_1_7_19 := SlT.over X28_1_7_18 hX (fun _ => nbo_x28_1_7_b4)
 have O28_0_7_19 := OwnT.ext O28_0_7_18 hX (fun k hk e => nbo_x28_0_7_b4 (e ▸ hk))
 have O28_1_7_19 := OwnT.ext O28_1_7_18 hX (fun k hk e => nbo_x28_1_7_b4 (e ▸ hk))
 clear hX hz E18 B2_18 B3_18 B4_18 B5_18 B7_18 X28_0_7_18 X28_1_7_18 O28_0_7_18 O28_1_7_18
 refine tailS_none rfl rfl (does_storeD (o := 0) (n := 3) (cs' := [i64 ((keySign seed h i msg).1), x28_0_7, x28_1_7]) (V := Value.agg #[i64 ((keySign seed h i msg).1), x28_0_7, x28_1_7]) s5_18 s39_18 B5_19 (nB rfl) rfl siz_37 (one_cons rfl (one_cons (SlT.one X28_0_7_19) (one_cons (SlT.one X28_1_7_19) one_nil))) rfl (fun wd20 hX hz B5_20 => ⟨hS_19.trans (hX.mono fun k _ e => (.inl e)), ?_⟩))
 have hS_20 := hS_19.trans (hX.mono (E' := (fun k => k = b5 ∨ k = b4)) fun k _ e => (.inl e))
 have E20 := E19.since hX (fun k e => e ▸ fr_b5)
 have B2_20 := B2_19.ext hX ne_b2_b5
 have B3_20 := B3_19.ext hX ne_b3_b5
 have B4_20 := B4_19.ext hX ne_b4_b5
 have B7_20 := B7_19.ext hX ne_b5_b7.symm
 have X28_0_7_20 := SlT.over X28_0_7_19 hX (fun _ => nbo_x28_0_7_b5)
 have X28_1_7_20 := SlT.over X28_1_7_19 hX (fun _ => nbo_x28_1_7_b5)
 have O28_0_7_20 := OwnT.ext O28_0_7_19 hX (fun k hk e => nbo_x28_0_7_b5 (e ▸ hk))
 have O28_1_7_20 := OwnT.ext O28_1_7_19 hX (fun k hk e => nbo_x28_1_7_b5 (e ▸ hk))
 clear hX hz E19 B2_19 B3_19 B4_19 B5_19 B7_19 X28_0_7_19 X28_1_7_19 O28_0_7_19 O28_1_7_19
 refine tailS_put rfl rfl N18 D18 (by decide) (does_assign (V := i64 ((0 : Nat) : Int)) rfl (⟨hS_20, fun a21 N21 D21 hv hO => ?_⟩))
 have s6_21 := hv
 have s4_21 := oT hO s4_18 rfl
 have s5_21 := oT hO s5_18 rfl
 clear hO hv N18 D18 s4_18 s5_18 s38_18 s39_18
 refine tailS_nil ?_
 refine wp_ret ?_
 refine res_three (V1 := Value.agg #[w32 (seed).a, w32 (seed).b, w32 (seed).c, w32 (seed).d, i64 (h), i64 (i + (((1 : Nat) : Int)))]) (V2 := Value.agg #[i64 ((keySign seed h i msg).1), x28_0_7, x28_1_7]) (V3 := i64 ((0 : Nat) : Int)) rfl D21 (ResIs.cell s4_21 B4_20 row_30 rfl rfl) (ResIs.cell s5_21 B5_20 row_37 rfl rfl) s6_21 ?_
 rw [keyUse_sign hb hbi]
 exact ⟨⟨_, _, _, rfl, rfl, ⟨_, _, rfl, O28_0_7_20, O28_1_7_20⟩, rfl⟩, E20⟩

end Go.Proofs.YtaeohnkfmachfabDoor
