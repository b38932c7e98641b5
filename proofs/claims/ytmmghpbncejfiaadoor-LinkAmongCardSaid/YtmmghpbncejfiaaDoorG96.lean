/- The walks of functions of the program: printed. -/
import Derived.Test.YtmmghpbncejfiaaDoorKB
import Derived.Test.YtmmghpbncejfiaaDoorG94
import Derived.Test.YtmmghpbncejfiaaDoorG95
import Derived.Test.YtmmghpbncejfiaaDoorF0
set_option maxRecDepth 100000
namespace Go.Proofs.YtmmghpbncejfiaaDoor
open Go Go.RowKit Sk Sd
theorem keyUse_ (seed : Dg) (h i : Int) (msg : Dg) (w0 : World) (hL : Laid w0) :
    Gives Tryd.prog 19 #[Value.agg #[w32 (seed).a, w32 (seed).b, w32 (seed).c, w32 (seed).d, i64 (h), i64 (i)], Dg.val (msg)] w0 (Pr.t3 (Pr.ex (Value.agg #[w32 ((keyUse seed h i msg).1).a, w32 ((keyUse seed h i msg).1).b, w32 ((keyUse seed h i msg).1).c, w32 ((keyUse seed h i msg).1).d, i64 ((keyUse seed h i msg).2.1), i64 ((keyUse seed h i msg).2.2.1)])) (Pr.ag2 (fun x y => Value.agg #[i64 (keyUse seed h i msg).2.2.2.1, x, y]) (Pr.own' DG w0.heap.size 24 ((keyUse seed h i msg).2.2.2.2.1)) (Pr.own' DG w0.heap.size 24 ((keyUse seed h i msg).2.2.2.2.2.1))) (Pr.ex (i64 (((keyUse seed h i msg).2.2.2.2.2.2 : Nat) : Int)))) := by
 refine enter (N := 47) Tryd.func19 rfl rfl ?_
 intro a0 N0 D0 hA
 have s0_0 : get a0 0 = Value.agg #[w32 (seed).a, w32 (seed).b, w32 (seed).c, w32 (seed).d, i64 (h), i64 (i)] := hA 0 _ rfl
 have s1_0 : get a0 1 = Dg.val (msg) := hA 1 _ rfl
 clear hA
 have E0 : Ext w0 w0 := Ext.refl w0
 refine wp_seq ?_
 refine Rl [2, 3, 4, 5] [(2, Pr.box' w0.heap.size 45 [w32 (seed).a, w32 (seed).b, w32 (seed).c, w32 (seed).d, i64 (h), i64 (i)]), (3, Pr.box' w0.heap.size 24 [w32 (msg).a, w32 (msg).b, w32 (msg).c, w32 (msg).d]), (4, Pr.box' w0.heap.size 45 [w32 (Dg.zero).a, w32 (Dg.zero).b, w32 (Dg.zero).c, w32 (Dg.zero).d, i64 ((0 : Nat) : Int), i64 ((0 : Nat) : Int)]), (5, Pr.box' w0.heap.size 30 [i64 ((0 : Nat) : Int), Value.slice none 0 0, Value.slice none 0 0]), (6, Pr.ex (i64 ((0 : Nat) : Int)))] 5 N0 D0 ?_ ?_
 refine Ac ?_ (Ac ?_ (Ac ?_ (Ac ?_ (Ac ?_ (Az _)))))
 refine Ask.fresh rfl rfl ?_
 intro aq wq hNq hO hR hT
 exact does_box (V := Value.agg #[w32 (seed).a, w32 (seed).b, w32 (seed).c, w32 (seed).d, i64 (h), i64 (i)]) (oT hO s0_0 rfl) (fun b w2 he hlo hb => ⟨he, ⟨b, rfl, Nat.le_trans hR.size' hlo, hb⟩, ⟨b, rfl, hlo, hb.lt⟩⟩)
 refine Ask.fresh rfl rfl ?_
 intro aq wq hNq hO hR hT
 exact does_box (V := Dg.val (msg)) (oT hO s1_0 rfl) (fun b w2 he hlo hb => ⟨he, ⟨b, rfl, Nat.le_trans hR.size' hlo, hb⟩, ⟨b, rfl, hlo, hb.lt⟩⟩)
 refine Ask.fresh rfl rfl ?_
 intro aq wq hNq hO hR hT
 exact does_alloc zero_45 (fun b w2 he hlo hb => ⟨he, ⟨b, rfl, Nat.le_trans hR.size' hlo, hb⟩, ⟨b, rfl, hlo, hb.lt⟩⟩)
 refine Ask.fresh rfl rfl ?_
 intro aq wq hNq hO hR hT
 exact does_alloc zero_30 (fun b w2 he hlo hb => ⟨he, ⟨b, rfl, Nat.le_trans hR.size' hlo, hb⟩, ⟨b, rfl, hlo, hb.lt⟩⟩)
 exact Ap fun aq wq _ hO hR hT => does_assign (V := i64 ((0 : Nat) : Int)) rfl eR
 intro a1 wd1 N1 D1 hO hR hA hU
 obtain ⟨t2, t3, t4, t5, _, _⟩ := hA
 have E1 := E0.trans hR
 obtain ⟨b2, s2_1, lo_b2, B2_1⟩ := t2
 have fr_b2 : w0.heap.size ≤ b2 := Nat.le_trans E0.size' lo_b2
 obtain ⟨b3, s3_1, lo_b3, B3_1⟩ := t3
 have fr_b3 : w0.heap.size ≤ b3 := Nat.le_trans E0.size' lo_b3
 obtain ⟨b4, s4_1, lo_b4, B4_1⟩ := t4
 have fr_b4 : w0.heap.size ≤ b4 := Nat.le_trans E0.size' lo_b4
 obtain ⟨b5, s5_1, lo_b5, B5_1⟩ := t5
 have fr_b5 : w0.heap.size ≤ b5 := Nat.le_trans E0.size' lo_b5
 obtain ⟨u0, ⟨u1, ⟨u2, ⟨u3, _⟩⟩⟩⟩ := hU
 have ne_b2_b3 : b2 ≠ b3 := fun e => u0 3 (by decide) (by rw [s2_1, s3_1, e])
 have ne_b2_b4 : b2 ≠ b4 := fun e => u0 4 (by decide) (by rw [s2_1, s4_1, e])
 have ne_b2_b5 : b2 ≠ b5 := fun e => u0 5 (by decide) (by rw [s2_1, s5_1, e])
 have ne_b3_b4 : b3 ≠ b4 := fun e => u1 4 (by decide) (by rw [s3_1, s4_1, e])
 have ne_b3_b5 : b3 ≠ b5 := fun e => u1 5 (by decide) (by rw [s3_1, s5_1, e])
 have ne_b4_b5 : b4 ≠ b5 := fun e => u2 5 (by decide) (by rw [s4_1, s5_1, e])
 clear E0 N0 D0 s0_0 s1_0
 refine tail_nil ?_
 refine wp_seq ?_
 refine wp_block ?_
 refine wp_seq ?_
 refine Rl [] [(10, Pr.ex (Value.pointer (some ⟨b2, 4, none⟩))), (11, Pr.ex (i64 (h))), (12, Pr.ex (Value.bool (highB h))), (13, Pr.ex (Value.bool (!(highB h)))), (9, Pr.ex (Value.bool (!(highB h))))] 5 N1 D1 ?_ ?_
 refine Ac ?_ (Ac ?_ (Ac ?_ (Ac ?_ (Ac ?_ (Az _)))))
 exact Ap fun aq wq _ hO hR hT => does_field (o' := 4) fld_45_1 (oT hO s2_1 rfl) rfl eR
 exact Ap fun aq wq _ hO hR hT => does_loadD1 (o := 4) (V := i64 (h)) (hT 10 rfl rfl) (B2_1.ext' hR) rfl one_3 eR
 exact Ap fun aq wq _ hO hR hT => does_ret (vs := #[i64 (h)]) call_30 (args1 (hT 11 rfl rfl)) rfl ((high_ h wq).mono fun v w2 h => ⟨h.2, h.1⟩)
 exact Ap fun aq wq _ hO hR hT => does_not (B := highB h) (hT 12 rfl rfl) eR
 exact Ap fun aq wq _ hO hR hT => does_assign (V := Value.bool (!(highB h))) (hT 13 rfl rfl) eR
 intro a2 wd2 N2 D2 hO hR hA hU
 obtain ⟨_, _, _, _, t9, _⟩ := hA
 have E2 := E1.trans hR
 have s2_2 := oT hO s2_1 rfl
 have s3_2 := oT hO s3_1 rfl
 have s4_2 := oT hO s4_1 rfl
 have s5_2 := oT hO s5_1 rfl
 have B2_2 := B2_1.ext' hR
 have B3_2 := B3_1.ext' hR
 have B4_2 := B4_1.ext' hR
 have B5_2 := B5_1.ext' hR
 have s9_2 : get a2 9 = Value.bool (!(highB h)) := t9
 clear E1 N1 D1 s2_1 s3_1 s4_1 s5_1 B2_1 B3_1 B4_1 B5_1
 refine tail_nil ?_
 refine wp_if (B := !(highB h)) s9_2 (fun hc0 => ?_) (fun hc0 => ?_)
 have hb : ¬ (0 ≤ h ∧ h ≤ 4) := by simp [highB] at hc0; omega
 refine wp_seq ?_
 refine Rl [] [(14, Pr.ex (Value.agg #[w32 (Dg.zero).a, w32 (Dg.zero).b, w32 (Dg.zero).c, w32 (Dg.zero).d, i64 ((0 : Nat) : Int), i64 ((0 : Nat) : Int)])), (15, Pr.ex (Value.agg #[i64 ((0 : Nat) : Int), Value.slice none 0 0, Value.slice none 0 0]))] 2 N2 D2 ?_ ?_
 refine Ac ?_ (Ac ?_ (Az _))
 exact Ap fun aq wq _ hO hR hT => does_build (vs := #[]) (V := Value.agg #[w32 (Dg.zero).a, w32 (Dg.zero).b, w32 (Dg.zero).c, w32 (Dg.zero).d, i64 ((0 : Nat) : Int), i64 ((0 : Nat) : Int)]) parts0 (by kernel_rfl) eR
 exact Ap fun aq wq _ hO hR hT => does_build (vs := #[]) (V := Value.agg #[i64 ((0 : Nat) : Int), Value.slice none 0 0, Value.slice none 0 0]) parts0 (by kernel_rfl) eR
 intro a3 wd3 N3 D3 hO hR hA hU
 obtain ⟨t14, t15, _⟩ := hA
 have E3 := E2.trans hR
 have s4_3 := oT hO s4_2 rfl
 have s5_3 := oT hO s5_2 rfl
 have B2_3 := B2_2.ext' hR
 have B3_3 := B3_2.ext' hR
 have B4_3 := B4_2.ext' hR
 have B5_3 := B5_2.ext' hR
 have s14_3 : get a3 14 = Value.agg #[w32 (Dg.zero).a, w32 (Dg.zero).b, w32 (Dg.zero).c, w32 (Dg.zero).d, i64 ((0 : Nat) : Int), i64 ((0 : Nat) : Int)] := t14
 have s15_3 : get a3 15 = Value.agg #[i64 ((0 : Nat) : Int), Value.slice none 0 0, Value.slice none 0 0] := t15
 clear E2 N2 D2 s2_2 s3_2 s4_2 s5_2 s9_2 B2_2 B3_2 B4_2 B5_2
 refine tail_none rfl rfl (does_storeD (o := 0) (n := 6) (cs' := [w32 (Dg.zero).a, w32 (Dg.zero).b, w32 (Dg.zero).c, w32 (Dg.zero).d, i64 ((0 : Nat) : Int), i64 ((0 : Nat) : Int)]) (V := Value.agg #[w32 (Dg.zero).a, w32 (Dg.zero).b, w32 (Dg.zero).c, w32 (Dg.zero).d, i64 ((0 : Nat) : Int), i64 ((0 : Nat) : Int)]) s4_3 s14_3 B4_3 (nB rfl) rfl siz_45 rfl rfl (fun wd4 hX hz B4_4 => ?_))
 have E4 := E3.since hX (fun k e => e ▸ fr_b4)
 have B2_4 := B2_3.ext hX ne_b2_b4
 have B3_4 := B3_3.ext hX ne_b3_b4
 have B5_4 := B5_3.ext hX ne_b4_b5.symm
 clear hX hz E3 B2_3 B3_3 B4_3 B5_3
 refine tail_none rfl rfl (does_storeD (o := 0) (n := 3) (cs' := [i64 ((0 : Nat) : Int), Value.slice none 0 0, Value.slice none 0 0]) (V := Value.agg #[i64 ((0 : Nat) : Int), Value.slice none 0 0, Value.slice none 0 0]) s5_3 s15_3 B5_4 (nB rfl) rfl siz_30 rfl rfl (fun wd5 hX hz B5_5 => ?_))
 have E5 := E4.since hX (fun k e => e ▸ fr_b5)
 have B2_5 := B2_4.ext hX ne_b2_b5
 have B3_5 := B3_4.ext hX ne_b3_b5
 have B4_5 := B4_4.ext hX ne_b4_b5
 clear hX hz E4 B2_4 B3_4 B4_4 B5_4
 refine tail_put rfl rfl N3 D3 (by decide) (does_assign (V := i64 ((2 : Nat) : Int)) rfl (fun a6 N6 D6 hv hO => ?_))
 have s6_6 := hv
 have s4_6 := oT hO s4_3 rfl
 have s5_6 := oT hO s5_3 rfl
 clear hO hv N3 D3 s4_3 s5_3 s14_3 s15_3
 refine tail_nil ?_
 refine wp_ret ?_
 refine res_three (V1 := Value.agg #[w32 (Dg.zero).a, w32 (Dg.zero).b, w32 (Dg.zero).c, w32 (Dg.zero).d, i64 ((0 : Nat) : Int), i64 ((0 : Nat) : Int)]) (V2 := Value.agg #[i64 ((0 : Nat) : Int), Value.slice none 0 0, Value.slice none 0 0]) (V3 := i64 ((2 : Nat) : Int)) rfl D6 (ResIs.cell s4_6 B4_5 row_45 rfl rfl) (ResIs.cell s5_6 B5_5 row_30 rfl rfl) s6_6 ?_
 rw [keyUse_no hb]
 exact ⟨⟨_, _, _, rfl, rfl, ⟨_, _, rfl, OwnT.nil DG _ 24 _, OwnT.nil DG _ 24 _⟩, rfl⟩, E5⟩
 have hb : 0 ≤ h ∧ h ≤ 4 := by simpa [highB] using hc0
 refine wp_seq ?_
 obtain ⟨n, rfl⟩ : ∃ n : Nat, h = (n : Int) := ⟨(h).toNat, by omega⟩
 have hn4 : n ≤ 4 := by omega
 have hp16 := pw_small hn4
 refine Ra [] [(17, Pr.ex (Value.pointer (some ⟨b2, 5, none⟩))), (18, Pr.ex (i64 (i))), (19, Pr.ex (Value.bool (decide (i < ((0 : Nat) : Int))))), (20, Pr.ex (Value.bool (decide (i < ((0 : Nat) : Int))))), (21, Pr.ifb (!(decide (i < ((0 : Nat) : Int)))) (Pr.ex (Value.pointer (some ⟨b2, 5, none⟩)))), (22, Pr.ifb (!(decide (i < ((0 : Nat) : Int)))) (Pr.ex (i64 (i)))), (23, Pr.ifb (!(decide (i < ((0 : Nat) : Int)))) (Pr.ex (Value.pointer (some ⟨b2, 4, none⟩)))), (24, Pr.ifb (!(decide (i < ((0 : Nat) : Int)))) (Pr.ex (i64 (n : Int)))), (25, Pr.ifb (!(decide (i < ((0 : Nat) : Int)))) (Pr.ex (i64 ((pw n : Nat) : Int)))), (26, Pr.ifb (!(decide (i < ((0 : Nat) : Int)))) (Pr.ex (Value.bool (decide (((pw n : Nat) : Int) ≤ i))))), (27, Pr.ex (Value.bool ((decide (i < ((0 : Nat) : Int))) || (decide (((pw n : Nat) : Int) ≤ i))))), (16, Pr.ex (Value.bool ((decide (i < ((0 : Nat) : Int))) || (decide (((pw n : Nat) : Int) ≤ i)))))] 12 mixed N2 D2 ?_ ?_
 refine Ac ?_ (Ac ?_ (Ac ?_ (Ac ?_ (Ac ?_ (Ac ?_ (Ac ?_ (Ac ?_ (Ac ?_ (Ac ?_ (Ac ?_ (Ac ?_ (Az _))))))))))))
 exact Ad fun aq wq _ hO hR hT => does_field (o' := 5) fld_45_2 (oT hO s2_2 rfl) rfl eR
 exact Ad fun aq wq _ hO hR hT => does_loadD1 (o := 5) (V := i64 (i)) (hT 17 rfl rfl) (B2_2.ext' hR) rfl one_3 eR
 exact Ad fun aq wq _ hO hR hT => does_lss (a := i) (b := ((0 : Nat) : Int)) (hT 18 rfl rfl) rfl eR
 exact Ad fun aq wq _ hO hR hT => does_move (V := Value.bool (decide (i < ((0 : Nat) : Int)))) (hT 19 rfl rfl) eR
 refine Ask.guarded (B := decide (i < ((0 : Nat) : Int))) (want := false) (t := 20) rfl rfl rfl rfl (by decide) (fun aq wq hO hR hT => hT 20 rfl rfl) (fun hG aq wq hNq hO hR hT => ?_) (fun hno _ => fun hc => absurd (bn hc) hno)
 replace hG := nb hG
 replace hR := (Ext.drew _).trans hR
 exact does_field (o' := 5) fld_45_2 (oT hO s2_2 rfl) rfl ⟨Ext.refl _, fun _ => rfl⟩
 refine Ask.guarded (B := decide (i < ((0 : Nat) : Int))) (want := false) (t := 20) rfl rfl rfl rfl (by decide) (fun aq wq hO hR hT => hT 20 rfl rfl) (fun hG aq wq hNq hO hR hT => ?_) (fun hno _ => fun hc => absurd (bn hc) hno)
 replace hG := nb hG
 replace hR := (Ext.drew _).trans hR
 exact does_loadD1 (o := 5) (V := i64 (i)) (hT 21 rfl rfl hG) (B2_2.ext' hR) rfl one_3 ⟨Ext.refl _, fun _ => rfl⟩
 refine Ask.guarded (B := decide (i < ((0 : Nat) : Int))) (want := false) (t := 20) rfl rfl rfl rfl (by decide) (fun aq wq hO hR hT => hT 20 rfl rfl) (fun hG aq wq hNq hO hR hT => ?_) (fun hno _ => fun hc => absurd (bn hc) hno)
 replace hG := nb hG
 replace hR := (Ext.drew _).trans hR
 exact does_field (o' := 4) fld_45_1 (oT hO s2_2 rfl) rfl ⟨Ext.refl _, fun _ => rfl⟩
 refine Ask.guarded (B := decide (i < ((0 : Nat) : Int))) (want := false) (t := 20) rfl rfl rfl rfl (by decide) (fun aq wq hO hR hT => hT 20 rfl rfl) (fun hG aq wq hNq hO hR hT => ?_) (fun hno _ => fun hc => absurd (bn hc) hno)
 replace hG := nb hG
 replace hR := (Ext.drew _).trans hR
 exact does_loadD1 (o := 4) (V := i64 (n : Int)) (hT 23 rfl rfl hG) (B2_2.ext' hR) rfl one_3 ⟨Ext.refl _, fun _ => rfl⟩
 refine Ask.guarded (B := decide (i < ((0 : Nat) : Int))) (want := false) (t := 20) rfl rfl rfl rfl (by decide) (fun aq wq hO hR hT => hT 20 rfl rfl) (fun hG aq wq hNq hO hR hT => ?_) (fun hno _ => fun hc => absurd (bn hc) hno)
 replace hG := nb hG
 replace hR := (Ext.drew _).trans hR
 exact does_shl (k := .i64) (k' := .i64) (a := 1) (b := (n : Int)) (r := ((pw n : Nat) : Int)) rfl (hT 24 rfl rfl hG) (by omega) (by simp only [IntKind.bits]; omega) (shl_one hn4) ⟨Ext.refl _, fun _ => rfl⟩
 refine Ask.guarded (B := decide (i < ((0 : Nat) : Int))) (want := false) (t := 20) rfl rfl rfl rfl (by decide) (fun aq wq hO hR hT => hT 20 rfl rfl) (fun hG aq wq hNq hO hR hT => ?_) (fun hno _ => fun hc => absurd (bn hc) hno)
 replace hG := nb hG
 replace hR := (Ext.drew _).trans hR
 exact does_geq (a := i) (b := ((pw n : Nat) : Int)) (hT 22 rfl rfl hG) (hT 25 rfl rfl hG) ⟨Ext.refl _, fun _ => rfl⟩
 exact Ad fun aq wq _ hO hR hT => does_or (B := decide (i < ((0 : Nat) : Int))) (X := decide (((pw n : Nat) : Int) ≤ i)) (hT 20 rfl rfl) rfl (fun hB => (hT 26 rfl rfl (nb hB))) eR
 exact Ad fun aq wq _ hO hR hT => does_assign (V := Value.bool ((decide (i < ((0 : Nat) : Int))) || (decide (((pw n : Nat) : Int) ≤ i)))) (hT 27 rfl rfl) eR
 intro a7 wd7 N7 D7 hO hR hA hU
 obtain ⟨_, _, _, _, _, _, _, _, _, _, _, t16, _⟩ := hA
 have E7 := E2.trans hR
 have s2_7 := oT hO s2_2 rfl
 have s3_7 := oT hO s3_2 rfl
 have s4_7 := oT hO s4_2 rfl
 have s5_7 := oT hO s5_2 rfl
 have B2_7 := B2_2.ext' hR
 have B3_7 := B3_2.ext' hR
 have B4_7 := B4_2.ext' hR
 have B5_7 := B5_2.ext' hR
 have s16_7 : get a7 16 = Value.bool ((decide (i < ((0 : Nat) : Int))) || (decide (((pw n : Nat) : Int) ≤ i))) := t16
 clear E2 N2 D2 s2_2 s3_2 s4_2 s5_2 s9_2 B2_2 B3_2 B4_2 B5_2
 refine tail_nil ?_
 refine wp_if (B := (decide (i < ((0 : Nat) : Int))) || (decide (((pw n : Nat) : Int) ≤ i))) s16_7 (fun hc1 => ?_) (fun hc1 => ?_)
 have hbi : ¬ (0 ≤ i ∧ i < ((pw n : Nat) : Int)) := by rintro ⟨h1, h2⟩; have e1 : decide (i < ((0 : Nat) : Int)) = false := decide_eq_false (by omega); have e2 : decide (((pw n : Nat) : Int) ≤ i) = false := decide_eq_false (by omega); rw [e1, e2] at hc1; cases hc1
 refine wp_seq ?_
 refine Rl [] [(28, Pr.ex (Value.agg #[w32 (Dg.zero).a, w32 (Dg.zero).b, w32 (Dg.zero).c, w32 (Dg.zero).d, i64 ((0 : Nat) : Int), i64 ((0 : Nat) : Int)])), (29, Pr.ex (Value.agg #[i64 ((0 : Nat) : Int), Value.slice none 0 0, Value.slice none 0 0]))] 2 N7 D7 ?_ ?_
 refine Ac ?_ (Ac ?_ (Az _))
 exact Ap fun aq wq _ hO hR hT => does_build (vs := #[]) (V := Value.agg #[w32 (Dg.zero).a, w32 (Dg.zero).b, w32 (Dg.zero).c, w32 (Dg.zero).d, i64 ((0 : Nat) : Int), i64 ((0 : Nat) : Int)]) parts0 (by kernel_rfl) eR
 exact Ap fun aq wq _ hO hR hT => does_build (vs := #[]) (V := Value.agg #[i64 ((0 : Nat) : Int), Value.slice none 0 0, Value.slice none 0 0]) parts0 (by kernel_rfl) eR
 intro a8 wd8 N8 D8 hO hR hA hU
 obtain ⟨t28, t29, _⟩ := hA
 have E8 := E7.trans hR
 have s4_8 := oT hO s4_7 rfl
 have s5_8 := oT hO s5_7 rfl
 have B2_8 := B2_7.ext' hR
 have B3_8 := B3_7.ext' hR
 have B4_8 := B4_7.ext' hR
 have B5_8 := B5_7.ext' hR
 have s28_8 : get a8 28 = Value.agg #[w32 (Dg.zero).a, w32 (Dg.zero).b, w32 (Dg.zero).c, w32 (Dg.zero).d, i64 ((0 : Nat) : Int), i64 ((0 : Nat) : Int)] := t28
 have s29_8 : get a8 29 = Value.agg #[i64 ((0 : Nat) : Int), Value.slice none 0 0, Value.slice none 0 0] := t29
 clear E7 N7 D7 s2_7 s3_7 s4_7 s5_7 s16_7 B2_7 B3_7 B4_7 B5_7
 refine tail_none rfl rfl (does_storeD (o := 0) (n := 6) (cs' := [w32 (Dg.zero).a, w32 (Dg.zero).b, w32 (Dg.zero).c, w32 (Dg.zero).d, i64 ((0 : Nat) : Int), i64 ((0 : Nat) : Int)]) (V := Value.agg #[w32 (Dg.zero).a, w32 (Dg.zero).b, w32 (Dg.zero).c, w32 (Dg.zero).d, i64 ((0 : Nat) : Int), i64 ((0 : Nat) : Int)]) s4_8 s28_8 B4_8 (nB rfl) rfl siz_45 rfl rfl (fun wd9 hX hz B4_9 => ?_))
 have E9 := E8.since hX (fun k e => e ▸ fr_b4)
 have B2_9 := B2_8.ext hX ne_b2_b4
 have B3_9 := B3_8.ext hX ne_b3_b4
 have B5_9 := B5_8.ext hX ne_b4_b5.symm
 clear hX hz E8 B2_8 B3_8 B4_8 B5_8
 refine tail_none rfl rfl (does_storeD (o := 0) (n := 3) (cs' := [i64 ((0 : Nat) : Int), Value.slice none 0 0, Value.slice none 0 0]) (V := Value.agg #[i64 ((0 : Nat) : Int), Value.slice none 0 0, Value.slice none 0 0]) s5_8 s29_8 B5_9 (nB rfl) rfl siz_30 rfl rfl (fun wd10 hX hz B5_10 => ?_))
 have E10 := E9.since hX (fun k e => e ▸ fr_b5)
 have B2_10 := B2_9.ext hX ne_b2_b5
 have B3_10 := B3_9.ext hX ne_b3_b5
 have B4_10 := B4_9.ext hX ne_b4_b5
 clear hX hz E9 B2_9 B3_9 B4_9 B5_9
 refine tail_put rfl rfl N8 D8 (by decide) (does_assign (V := i64 ((9 : Nat) : Int)) rfl (fun a11 N11 D11 hv hO => ?_))
 have s6_11 := hv
 have s4_11 := oT hO s4_8 rfl
 have s5_11 := oT hO s5_8 rfl
 clear hO hv N8 D8 s4_8 s5_8 s28_8 s29_8
 refine tail_nil ?_
 refine wp_ret ?_
 refine res_three (V1 := Value.agg #[w32 (Dg.zero).a, w32 (Dg.zero).b, w32 (Dg.zero).c, w32 (Dg.zero).d, i64 ((0 : Nat) : Int), i64 ((0 : Nat) : Int)]) (V2 := Value.agg #[i64 ((0 : Nat) : Int), Value.slice none 0 0, Value.slice none 0 0]) (V3 := i64 ((9 : Nat) : Int)) rfl D11 (ResIs.cell s4_11 B4_10 row_45 rfl rfl) (ResIs.cell s5_11 B5_10 row_30 rfl rfl) s6_11 ?_
 rw [keyUse_arg hn4 hbi]
 exact ⟨⟨_, _, _, rfl, rfl, ⟨_, _, rfl, OwnT.nil DG _ 24 _, OwnT.nil DG _ 24 _⟩, rfl⟩, E10⟩
 have hbi : 0 ≤ i ∧ i < ((pw n : Nat) : Int) := by simpa using hc1
 refine wp_skip ?_
 refine wp_seq ?_
 obtain ⟨j, rfl⟩ : ∃ n : Nat, i = (n : Int) := ⟨(i).toNat, by omega⟩
 have hj : j < pw n := by omega
 refine Rl [] [(31, Pr.ex (Value.pointer (some ⟨b2, 0, none⟩))), (32, Pr.ex (Dg.val (seed))), (33, Pr.ex (Value.pointer (some ⟨b2, 4, none⟩))), (34, Pr.ex (i64 (n : Int))), (35, Pr.ex (Value.pointer (some ⟨b2, 5, none⟩))), (36, Pr.ex (i64 (j : Int))), (37, Pr.ex (Dg.val (msg))), (38, Pr.t2 (Pr.ag2 (fun x y => Value.agg #[i64 (j : Int), x, y]) (Pr.own' DG wd7.heap.size 24 (signed (seedAt seed j) msg)) (Pr.own' DG wd7.heap.size 24 (way (publics seed (pw n)) j))) (Pr.ex (i64 ((0 : Nat) : Int)))), (30, Pr.t2 (Pr.ag2 (fun x y => Value.agg #[i64 (j : Int), x, y]) (Pr.own' DG wd7.heap.size 24 (signed (seedAt seed j) msg)) (Pr.own' DG wd7.heap.size 24 (way (publics seed (pw n)) j))) (Pr.ex (i64 ((0 : Nat) : Int)))), (39, Pr.ag2 (fun x y => Value.agg #[i64 (j : Int), x, y]) (Pr.own' DG wd7.heap.size 24 (signed (seedAt seed j) msg)) (Pr.own' DG wd7.heap.size 24 (way (publics seed (pw n)) j))), (40, Pr.ex (i64 ((0 : Nat) : Int)))] 11 N7 D7 ?_ ?_
 refine Ac ?_ (Ac ?_ (Ac ?_ (Ac ?_ (Ac ?_ (Ac ?_ (Ac ?_ (Ac ?_ (Ac ?_ (Ac ?_ (Ac ?_ (Az _)))))))))))
 exact Ap fun aq wq _ hO hR hT => does_field (o' := 0) fld_45_0 (oT hO s2_7 rfl) rfl eR
 exact Ap fun aq wq _ hO hR hT => does_loadD (o := 0) (n := 4) (mid := [w32 (seed).a, w32 (seed).b, w32 (seed).c, w32 (seed).d]) (hT 31 rfl rfl) (B2_7.ext' hR) rfl rfl (nB rfl) row_24 rfl eR
 exact Ap fun aq wq _ hO hR hT => does_field (o' := 4) fld_45_1 (oT hO s2_7 rfl) rfl eR
 exact Ap fun aq wq _ hO hR hT => does_loadD1 (o := 4) (V := i64 (n : Int)) (hT 33 rfl rfl) (B2_7.ext' hR) rfl one_3 eR
 exact Ap fun aq wq _ hO hR hT => does_field (o' := 5) fld_45_2 (oT hO s2_7 rfl) rfl eR
 exact Ap fun aq wq _ hO hR hT => does_loadD1 (o := 5) (V := i64 (j : Int)) (hT 35 rfl rfl) (B2_7.ext' hR) rfl one_3 eR
 exact Ap fun aq wq _ hO hR hT => does_loadD (o := 0) (n := 4) (mid := [w32 (msg).a, w32 (msg).b, w32 (msg).c, w32 (msg).d]) (oT hO s3_7 rfl) (B3_7.ext' hR) rfl rfl (nB rfl) row_24 rfl eR
 exact Ap fun aq wq _ hO hR hT => does_ret (vs := #[Dg.val (seed), i64 (n : Int), i64 (j : Int), Dg.val (msg)]) call_33 (args4 (hT 32 rfl rfl) (hT 34 rfl rfl) (hT 36 rfl rfl) (hT 37 rfl rfl)) rfl ((keySign_k seed n j msg wq (hL.ext (E7.trans hR)) hn4 hj).mono fun v w2 h => ⟨h.2, by obtain ⟨x0, x1, hv, k0, k1⟩ := h.1; exact ⟨x0, x1, hv, (by obtain ⟨z0, z1, hz, kz0, kz1⟩ := k0; exact ⟨z0, z1, hz, OwnT.base kz0 hR.size', OwnT.base kz1 hR.size'⟩), k1⟩⟩)
 exact Ap fun aq wq _ hO hR hT => does_move rfl ⟨Ext.refl _, (hT 38 rfl rfl)⟩
 exact Ap fun aq wq _ hO hR hT => by
  obtain ⟨x0, x1, hv, k0, k1⟩ := (hT 30 rfl rfl)
  exact does_extract hv rfl ⟨Ext.refl _, k0⟩
 exact Ap fun aq wq _ hO hR hT => by
  obtain ⟨x0, x1, hv, k0, k1⟩ := (hT 30 rfl rfl)
  exact does_extract (V := i64 ((0 : Nat) : Int)) hv (by rw [show x1 = i64 ((0 : Nat) : Int) from k1]; rfl) ⟨Ext.refl _, rfl⟩
 intro a12 wd12 N12 D12 hO hR hA hU
 obtain ⟨_, _, _, _, _, _, _, _, _, t39, t40, _⟩ := hA
 have E12 := E7.trans hR
 have s2_12 := oT hO s2_7 rfl
 have s4_12 := oT hO s4_7 rfl
 have s5_12 := oT hO s5_7 rfl
 have B2_12 := B2_7.ext' hR
 have B3_12 := B3_7.ext' hR
 have B4_12 := B4_7.ext' hR
 have B5_12 := B5_7.ext' hR
 obtain ⟨x39_0_12, x39_1_12, s39_12, ky39_0_12, ky39_1_12⟩ := t39
 replace ky39_0_12 : OwnT DG wd7.heap.size 24 (signed (seedAt seed j) msg) x39_0_12 wd12 := ky39_0_12
 have nbo_x39_0_12_b2 := Ob1 ky39_0_12 B2_7
 have nbo_x39_0_12_b3 := Ob1 ky39_0_12 B3_7
 have nbo_x39_0_12_b4 := Ob1 ky39_0_12 B4_7
 have nbo_x39_0_12_b5 := Ob1 ky39_0_12 B5_7
 have X39_0_12_12 := ky39_0_12.sl.wide (Nat.zero_le _) (.inl rfl)
 have O39_0_12_12 := OwnT.base ky39_0_12 E7.size'
 replace ky39_1_12 : OwnT DG wd7.heap.size 24 (way (publics seed (pw n)) j) x39_1_12 wd12 := ky39_1_12
 have nbo_x39_1_12_b2 := Ob1 ky39_1_12 B2_7
 have nbo_x39_1_12_b3 := Ob1 ky39_1_12 B3_7
 have nbo_x39_1_12_b4 := Ob1 ky39_1_12 B4_7
 have nbo_x39_1_12_b5 := Ob1 ky39_1_12 B5_7
 have X39_1_12_12 := ky39_1_12.sl.wide (Nat.zero_le _) (.inl rfl)
 have O39_1_12_12 := OwnT.base ky39_1_12 E7.size'
 have s40_12 : get a12 40 = i64 ((0 : Nat) : Int) := t40
 clear E7 N7 D7 s2_7 s3_7 s4_7 s5_7 s16_7 B2_7 B3_7 B4_7 B5_7
 refine tail_put rfl rfl N12 D12 (by decide) (does_alloc zero_30 (fun b7 wd13 he lo_b7 B7_13 => fun a13 N13 D13 hv hO => ?_))
 have s7_13 := hv
 have E13 := E12.trans he
 have B2_13 := B2_12.ext' he
 have B3_13 := B3_12.ext' he
 have B4_13 := B4_12.ext' he
 have B5_13 := B5_12.ext' he
 have X39_0_12_13 := X39_0_12_12.ext' he
 have X39_1_12_13 := X39_1_12_12.ext' he
 have O39_0_12_13 := O39_0_12_12.ext' he
 have O39_1_12_13 := O39_1_12_12.ext' he
 have fr_b7 : w0.heap.size ≤ b7 := Nat.le_trans E12.size' lo_b7
 have ne_b2_b7 := Hl B2_12 lo_b7
 have ne_b3_b7 := Hl B3_12 lo_b7
 have ne_b4_b7 := Hl B4_12 lo_b7
 have ne_b5_b7 := Hl B5_12 lo_b7
 have nb_x39_0_12_b7 := SlT.old X39_0_12_12 lo_b7
 have nb_x39_1_12_b7 := SlT.old X39_1_12_12 lo_b7
 have nbo_x39_0_12_b7 := Ol O39_0_12_12 lo_b7
 have nbo_x39_1_12_b7 := Ol O39_1_12_12 lo_b7
 have s2_13 := oT hO s2_12 rfl
 have s4_13 := oT hO s4_12 rfl
 have s5_13 := oT hO s5_12 rfl
 have s39_13 := oT hO s39_12 rfl
 have s40_13 := oT hO s40_12 rfl
 clear hO hv N12 D12 E12 B2_12 B3_12 B4_12 B5_12 X39_0_12_12 X39_1_12_12 O39_0_12_12 O39_1_12_12 s2_12 s4_12 s5_12 s39_12 s40_12
 refine tail_none rfl rfl (does_storeD (o := 0) (n := 3) (cs' := [i64 (j : Int), x39_0_12, x39_1_12]) (V := Value.agg #[i64 (j : Int), x39_0_12, x39_1_12]) s7_13 s39_13 B7_13 (nB rfl) rfl siz_30 (one_cons rfl (one_cons (SlT.one X39_0_12_13) (one_cons (SlT.one X39_1_12_13) one_nil))) rfl (fun wd14 hX hz B7_14 => ?_))
 have E14 := E13.since hX (fun k e => e ▸ fr_b7)
 have B2_14 := B2_13.ext hX ne_b2_b7
 have B3_14 := B3_13.ext hX ne_b3_b7
 have B4_14 := B4_13.ext hX ne_b4_b7
 have B5_14 := B5_13.ext hX ne_b5_b7
 have X39_0_12_14 := SlT.over X39_0_12_13 hX nb_x39_0_12_b7
 have X39_1_12_14 := SlT.over X39_1_12_13 hX nb_x39_1_12_b7
 have O39_0_12_14 := OwnT.ext O39_0_12_13 hX (fun k hk e => nbo_x39_0_12_b7 (e ▸ hk))
 have O39_1_12_14 := OwnT.ext O39_1_12_13 hX (fun k hk e => nbo_x39_1_12_b7 (e ▸ hk))
 clear hX hz E13 B2_13 B3_13 B4_13 B5_13 B7_13 X39_0_12_13 X39_1_12_13 O39_0_12_13 O39_1_12_13
 refine tail_put rfl rfl N13 D13 (by decide) (does_assign (V := i64 ((0 : Nat) : Int)) s40_13 (fun a15 N15 D15 hv hO => ?_))
 have s8_15 := hv
 have s2_15 := oT hO s2_13 rfl
 have s4_15 := oT hO s4_13 rfl
 have s5_15 := oT hO s5_13 rfl
 have s7_15 := oT hO s7_13 rfl
 clear hO hv N13 D13 s2_13 s4_13 s5_13 s7_13 s39_13 s40_13
 refine tail_nil ?_
 refine wp_seq ?_
 refine Rl [] [(41, Pr.ex (Value.pointer (some ⟨b2, 5, none⟩))), (42, Pr.ex (i64 (j : Int))), (43, Pr.ex (i64 ((j + 1 : Nat) : Int))), (44, Pr.ex (Value.pointer (some ⟨b2, 5, none⟩)))] 4 N15 D15 ?_ ?_
 refine Ac ?_ (Ac ?_ (Ac ?_ (Ac ?_ (Az _))))
 exact Ap fun aq wq _ hO hR hT => does_field (o' := 5) fld_45_2 (oT hO s2_15 rfl) rfl eR
 exact Ap fun aq wq _ hO hR hT => does_loadD1 (o := 5) (V := i64 (j : Int)) (hT 41 rfl rfl) (B2_14.ext' hR) rfl one_3 eR
 exact Ap fun aq wq _ hO hR hT => does_add (a := (j : Int)) (b := ((1 : Nat) : Int)) (r := ((j + 1 : Nat) : Int)) (hT 42 rfl rfl) rfl (by omega) (by omega) (by omega) eR
 exact Ap fun aq wq _ hO hR hT => does_field (o' := 5) fld_45_2 (oT hO s2_15 rfl) rfl eR
 intro a16 wd16 N16 D16 hO hR hA hU
 obtain ⟨_, _, t43, t44, _⟩ := hA
 have E16 := E14.trans hR
 have s2_16 := oT hO s2_15 rfl
 have s4_16 := oT hO s4_15 rfl
 have s5_16 := oT hO s5_15 rfl
 have s7_16 := oT hO s7_15 rfl
 have B2_16 := B2_14.ext' hR
 have B3_16 := B3_14.ext' hR
 have B4_16 := B4_14.ext' hR
 have B5_16 := B5_14.ext' hR
 have B7_16 := B7_14.ext' hR
 have X39_0_12_16 := X39_0_12_14.ext' hR
 have X39_1_12_16 := X39_1_12_14.ext' hR
 have O39_0_12_16 := O39_0_12_14.ext' hR
 have O39_1_12_16 := O39_1_12_14.ext' hR
 have s43_16 : get a16 43 = i64 ((j + 1 : Nat) : Int) := t43
 have s44_16 : get a16 44 = Value.pointer (some ⟨b2, 5, none⟩) := t44
 clear E14 N15 D15 s2_15 s4_15 s5_15 s7_15 s8_15 B2_14 B3_14 B4_14 B5_14 B7_14 X39_0_12_14 X39_1_12_14 O39_0_12_14 O39_1_12_14
 refine tail_none rfl rfl (does_storeD (o := 5) (n := 1) (cs' := [w32 (seed).a, w32 (seed).b, w32 (seed).c, w32 (seed).d, i64 (n : Int), i64 ((j + 1 : Nat) : Int)]) (V := i64 ((j + 1 : Nat) : Int)) s44_16 s43_16 B2_16 (nB rfl) rfl siz_3 rfl rfl (fun wd17 hX hz B2_17 => ?_))
 have E17 := E16.since hX (fun k e => e ▸ fr_b2)
 have B3_17 := B3_16.ext hX ne_b2_b3.symm
 have B4_17 := B4_16.ext hX ne_b2_b4.symm
 have B5_17 := B5_16.ext hX ne_b2_b5.symm
 have B7_17 := B7_16.ext hX ne_b2_b7.symm
 have X39_0_12_17 := SlT.over X39_0_12_16 hX (fun _ => nbo_x39_0_12_b2)
 have X39_1_12_17 := SlT.over X39_1_12_16 hX (fun _ => nbo_x39_1_12_b2)
 have O39_0_12_17 := OwnT.ext O39_0_12_16 hX (fun k hk e => nbo_x39_0_12_b2 (e ▸ hk))
 have O39_1_12_17 := OwnT.ext O39_1_12_16 hX (fun k hk e => nbo_x39_1_12_b2 (e ▸ hk))
 clear hX hz E16 B2_16 B3_16 B4_16 B5_16 B7_16 X39_0_12_16 X39_1_12_16 O39_0_12_16 O39_1_12_16
 refine tail_nil ?_
 refine wp_seq ?_
 refine region_late [] [(45, Pr.ex (Value.agg #[w32 (seed).a, w32 (seed).b, w32 (seed).c, w32 (seed).d, i64 (n : Int), i64 ((j + 1 : Nat) : Int)])), (46, Pr.ex (Value.agg #[i64 (j : Int), x39_0_12, x39_1_12]))] 2 [1] (fun k => k = b5 ∨ k = b4) mixed N16 D16 (by kernel_rfl) (by kernel_rfl) (by kernel_rfl) (by kernel_rfl) (fun d v c a w h => by cases d <;> exact h) ?_ ?_ ?_
 refine Ac ?_ (Ac ?_ (Az _))
 exact Ad fun aq wq _ hO hR hT => does_loadD (o := 0) (n := 6) (mid := [w32 (seed).a, w32 (seed).b, w32 (seed).c, w32 (seed).d, i64 (n : Int), i64 ((j + 1 : Nat) : Int)]) (oT hO s2_16 rfl) (B2_17.ext' hR) rfl rfl (nB rfl) row_45 rfl eR
 exact Ad fun aq wq _ hO hR hT => does_loadD (o := 0) (n := 3) (mid := [i64 (j : Int), x39_0_12, x39_1_12]) (oT hO s7_16 rfl) (B7_17.ext' hR) rfl rfl (nB rfl) row_30 rfl eR
 refine LateAsks.cons rfl rfl rfl ?_ LateAsks.nil
 intro aq wq hO hR hT
 have hR0 := hR
 replace hR := (Ext.drew _).trans hR
 exact ⟨_, yl_loadD (o := 0) (n := 3) (mid := [i64 (j : Int), x39_0_12, x39_1_12]) (oT hO s7_16 rfl) B7_17 (fun e => e.elim ne_b5_b7.symm ne_b4_b7.symm) rfl rfl (nB rfl) row_30 rfl, rfl⟩
 intro wl hwl hwh a18 wd18 N18 D18 hO hR hA hU
 have hS_18 : ExtE (fun k => k = b5 ∨ k = b4) wl wd18 := hR.toE
 replace hR := hwl.trans hR
 obtain ⟨t45, t46, _⟩ := hA
 have E18 := E17.trans hR
 have s4_18 := oT hO s4_16 rfl
 have s5_18 := oT hO s5_16 rfl
 have B2_18 := B2_17.ext' hR
 have B3_18 := B3_17.ext' hR
 have B4_18 := B4_17.ext' hR
 have B5_18 := B5_17.ext' hR
 have B7_18 := B7_17.ext' hR
 have X39_0_12_18 := X39_0_12_17.ext' hR
 have X39_1_12_18 := X39_1_12_17.ext' hR
 have O39_0_12_18 := O39_0_12_17.ext' hR
 have O39_1_12_18 := O39_1_12_17.ext' hR
 have s45_18 : get a18 45 = Value.agg #[w32 (seed).a, w32 (seed).b, w32 (seed).c, w32 (seed).d, i64 (n : Int), i64 ((j + 1 : Nat) : Int)] := t45
 have s46_18 : get a18 46 = Value.agg #[i64 (j : Int), x39_0_12, x39_1_12] := t46
 clear E17 N16 D16 s2_16 s4_16 s5_16 s7_16 s43_16 s44_16 B2_17 B3_17 B4_17 B5_17 B7_17 X39_0_12_17 X39_1_12_17 O39_0_12_17 O39_1_12_17
 refine tailS_none rfl rfl (does_storeD (o := 0) (n := 6) (cs' := [w32 (seed).a, w32 (seed).b, w32 (seed).c, w32 (seed).d, i64 (n : Int), i64 ((j + 1 : Nat) : Int)]) (V := Value.agg #[w32 (seed).a, w32 (seed).b, w32 (seed).c, w32 (seed).d, i64 (n : Int), i64 ((j + 1 : Nat) : Int)]) s4_18 s45_18 B4_18 (nB rfl) rfl siz_45 rfl rfl (fun wd19 hX hz B4_19 => ⟨hS_18.trans (hX.mono fun k _ e => (.inr e)), ?_⟩))
 have hS_19 := hS_18.trans (hX.mono (E' := (fun k => k = b5 ∨ k = b4)) fun k _ e => (.inr e))
 have E19 := E18.since hX (fun k e => e ▸ fr_b4)
 have B2_19 := B2_18.ext hX ne_b2_b4
 have B3_19 := B3_18.ext hX ne_b3_b4
 have B5_19 := B5_18.ext hX ne_b4_b5.symm
 have B7_19 := B7_18.ext hX ne_b4_b7.symm
 have X39_0_12_19 := SlT.over X39_0_12_18 hX (fun _ => nbo_x39_0_12_b4)
 have X39_1_12_19 := SlT.over X39_1_12_18 hX (fun _ => nbo_x39_1_12_b4)
 have O39_0_12_19 := OwnT.ext O39_0_12_18 hX (fun k hk e => nbo_x39_0_12_b4 (e ▸ hk))
 have O39_1_12_19 := OwnT.ext O39_1_12_18 hX (fun k hk e => nbo_x39_1_12_b4 (e ▸ hk))
 clear hX hz E18 B2_18 B3_18 B4_18 B5_18 B7_18 X39_0_12_18 X39_1_12_18 O39_0_12_18 O39_1_12_18
 refine tailS_none rfl rfl (does_storeD (o := 0) (n := 3) (cs' := [i64 (j : Int), x39_0_12, x39_1_12]) (V := Value.agg #[i64 (j : Int), x39_0_12, x39_1_12]) s5_18 s46_18 B5_19 (nB rfl) rfl siz_30 (one_cons rfl (one_cons (SlT.one X39_0_12_19) (one_cons (SlT.one X39_1_12_19) one_nil))) rfl (fun wd20 hX hz B5_20 => ⟨hS_19.trans (hX.mono fun k _ e => (.inl e)), ?_⟩))
 have hS_20 := hS_19.trans (hX.mono (E' := (fun k => k = b5 ∨ k = b4)) fun k _ e => (.inl e))
 have E20 := E19.since hX (fun k e => e ▸ fr_b5)
 have B2_20 := B2_19.ext hX ne_b2_b5
 have B3_20 := B3_19.ext hX ne_b3_b5
 have B4_20 := B4_19.ext hX ne_b4_b5
 have B7_20 := B7_19.ext hX ne_b5_b7.symm
 have X39_0_12_20 := SlT.over X39_0_12_19 hX (fun _ => nbo_x39_0_12_b5)
 have X39_1_12_20 := SlT.over X39_1_12_19 hX (fun _ => nbo_x39_1_12_b5)
 have O39_0_12_20 := OwnT.ext O39_0_12_19 hX (fun k hk e => nbo_x39_0_12_b5 (e ▸ hk))
 have O39_1_12_20 := OwnT.ext O39_1_12_19 hX (fun k hk e => nbo_x39_1_12_b5 (e ▸ hk))
 clear hX hz E19 B2_19 B3_19 B4_19 B5_19 B7_19 X39_0_12_19 X39_1_12_19 O39_0_12_19 O39_1_12_19
 refine tailS_put rfl rfl N18 D18 (by decide) (does_assign (V := i64 ((0 : Nat) : Int)) rfl (⟨hS_20, fun a21 N21 D21 hv hO => ?_⟩))
 have s6_21 := hv
 have s4_21 := oT hO s4_18 rfl
 have s5_21 := oT hO s5_18 rfl
 clear hO hv N18 D18 s4_18 s5_18 s45_18 s46_18
 refine tailS_nil ?_
 refine wp_ret ?_
 refine res_three (V1 := Value.agg #[w32 (seed).a, w32 (seed).b, w32 (seed).c, w32 (seed).d, i64 (n : Int), i64 ((j + 1 : Nat) : Int)]) (V2 := Value.agg #[i64 (j : Int), x39_0_12, x39_1_12]) (V3 := i64 ((0 : Nat) : Int)) rfl D21 (ResIs.cell s4_21 B4_20 row_45 rfl rfl) (ResIs.cell s5_21 B5_20 row_30 rfl rfl) s6_21 ?_
 rw [keyUse_ok hn4 hj]
 exact ⟨⟨_, _, _, rfl, rfl, ⟨_, _, rfl, O39_0_12_20, O39_1_12_20⟩, rfl⟩, E20⟩

theorem keyUse_k (seed : Dg) (n j : Nat) (msg : Dg) (w0 : World) (hL : Laid w0) (hn : n ≤ 4) (hj : j < pw n) : Gives Tryd.prog 19 #[Value.agg #[w32 (seed).a, w32 (seed).b, w32 (seed).c, w32 (seed).d, i64 (n : Int), i64 (j : Int)], Dg.val msg] w0 (Pr.t3 (Pr.ex (Value.agg #[w32 (seed).a, w32 (seed).b, w32 (seed).c, w32 (seed).d, i64 (n : Int), i64 ((j + 1 : Nat) : Int)])) (Pr.ag2 (fun x y => Value.agg #[i64 (j : Int), x, y]) (Pr.own' DG w0.heap.size 24 (signed (seedAt seed j) msg)) (Pr.own' DG w0.heap.size 24 (way (publics seed (pw n)) j))) (Pr.ex (i64 ((0 : Nat) : Int)))) := by
  have h := keyUse_ seed n j msg w0 hL
  rw [keyUse_ok hn hj] at h
  exact h

end Go.Proofs.YtmmghpbncejfiaaDoor
