/- The walks of functions of the program: printed. -/
import Derived.Test.YtmmghpbncejfiaaDoorKB
import Derived.Test.YtmmghpbncejfiaaDoorG11
import Derived.Test.YtmmghpbncejfiaaDoorG91
import Derived.Test.YtmmghpbncejfiaaDoorG92
import Derived.Test.YtmmghpbncejfiaaDoorG93
import Derived.Test.YtmmghpbncejfiaaDoorG94
import Derived.Test.YtmmghpbncejfiaaDoorF0
set_option maxRecDepth 100000
namespace Go.Proofs.YtmmghpbncejfiaaDoor
open Go Go.RowKit Sk Sd
theorem keySign_ (seed : Dg) (h i : Int) (msg : Dg) (w0 : World) (hL : Laid w0) :
    Gives Tryd.prog 33 #[Dg.val (seed), i64 (h), i64 (i), Dg.val (msg)] w0 (Pr.t2 (Pr.ag2 (fun x y => Value.agg #[i64 (keySign seed h i msg).1, x, y]) (Pr.own' DG w0.heap.size 24 ((keySign seed h i msg).2.1)) (Pr.own' DG w0.heap.size 24 ((keySign seed h i msg).2.2.1))) (Pr.ex (i64 (((keySign seed h i msg).2.2.2 : Nat) : Int)))) := by
 refine enter (N := 44) Tryd.func33 rfl rfl ?_
 intro a0 N0 D0 hA
 have s0_0 : get a0 0 = Dg.val (seed) := hA 0 _ rfl
 have s1_0 : get a0 1 = i64 (h) := hA 1 _ rfl
 have s2_0 : get a0 2 = i64 (i) := hA 2 _ rfl
 have s3_0 : get a0 3 = Dg.val (msg) := hA 3 _ rfl
 clear hA
 have E0 : Ext w0 w0 := Ext.refl w0
 refine wp_seq ?_
 refine Rl [4, 7, 8] [(4, Pr.box' w0.heap.size 24 [w32 (seed).a, w32 (seed).b, w32 (seed).c, w32 (seed).d]), (7, Pr.box' w0.heap.size 24 [w32 (msg).a, w32 (msg).b, w32 (msg).c, w32 (msg).d]), (8, Pr.box' w0.heap.size 30 [i64 ((0 : Nat) : Int), Value.slice none 0 0, Value.slice none 0 0]), (9, Pr.ex (i64 ((0 : Nat) : Int)))] 4 N0 D0 ?_ ?_
 refine Ac ?_ (Ac ?_ (Ac ?_ (Ac ?_ (Az _))))
 refine Ask.fresh rfl rfl ?_
 intro aq wq hNq hO hR hT
 exact does_box (V := Dg.val (seed)) (oT hO s0_0 rfl) (fun b w2 he hlo hb => ⟨he, ⟨b, rfl, Nat.le_trans hR.size' hlo, hb⟩, ⟨b, rfl, hlo, hb.lt⟩⟩)
 refine Ask.fresh rfl rfl ?_
 intro aq wq hNq hO hR hT
 exact does_box (V := Dg.val (msg)) (oT hO s3_0 rfl) (fun b w2 he hlo hb => ⟨he, ⟨b, rfl, Nat.le_trans hR.size' hlo, hb⟩, ⟨b, rfl, hlo, hb.lt⟩⟩)
 refine Ask.fresh rfl rfl ?_
 intro aq wq hNq hO hR hT
 exact does_alloc zero_30 (fun b w2 he hlo hb => ⟨he, ⟨b, rfl, Nat.le_trans hR.size' hlo, hb⟩, ⟨b, rfl, hlo, hb.lt⟩⟩)
 exact Ap fun aq wq _ hO hR hT => does_assign (V := i64 ((0 : Nat) : Int)) rfl eR
 intro a1 wd1 N1 D1 hO hR hA hU
 obtain ⟨t4, t7, t8, _, _⟩ := hA
 have E1 := E0.trans hR
 have s1_1 := oT hO s1_0 rfl
 have s2_1 := oT hO s2_0 rfl
 obtain ⟨b4, s4_1, lo_b4, B4_1⟩ := t4
 have fr_b4 : w0.heap.size ≤ b4 := Nat.le_trans E0.size' lo_b4
 obtain ⟨b7, s7_1, lo_b7, B7_1⟩ := t7
 have fr_b7 : w0.heap.size ≤ b7 := Nat.le_trans E0.size' lo_b7
 obtain ⟨b8, s8_1, lo_b8, B8_1⟩ := t8
 have fr_b8 : w0.heap.size ≤ b8 := Nat.le_trans E0.size' lo_b8
 obtain ⟨u0, ⟨u1, ⟨u2, _⟩⟩⟩ := hU
 have ne_b4_b7 : b4 ≠ b7 := fun e => u0 7 (by decide) (by rw [s4_1, s7_1, e])
 have ne_b4_b8 : b4 ≠ b8 := fun e => u0 8 (by decide) (by rw [s4_1, s8_1, e])
 have ne_b7_b8 : b7 ≠ b8 := fun e => u1 8 (by decide) (by rw [s7_1, s8_1, e])
 clear E0 N0 D0 s0_0 s1_0 s2_0 s3_0
 refine tail_nil ?_
 refine wp_seq ?_
 refine wp_block ?_
 refine wp_seq ?_
 refine Rl [] [(13, Pr.ex (i64 (h))), (14, Pr.ex (Value.bool (highB h))), (15, Pr.ex (Value.bool (!(highB h)))), (12, Pr.ex (Value.bool (!(highB h))))] 4 N1 D1 ?_ ?_
 refine Ac ?_ (Ac ?_ (Ac ?_ (Ac ?_ (Az _))))
 exact Am s1_1 rfl fun _ => rfl
 exact Ap fun aq wq _ hO hR hT => does_ret (vs := #[i64 (h)]) call_30 (args1 (hT 13 rfl rfl)) rfl ((high_ h wq).mono fun v w2 h => ⟨h.2, h.1⟩)
 exact Ap fun aq wq _ hO hR hT => does_not (B := highB h) (hT 14 rfl rfl) eR
 exact Ap fun aq wq _ hO hR hT => does_assign (V := Value.bool (!(highB h))) (hT 15 rfl rfl) eR
 intro a2 wd2 N2 D2 hO hR hA hU
 obtain ⟨_, _, _, t12, _⟩ := hA
 have E2 := E1.trans hR
 have s1_2 := oT hO s1_1 rfl
 have s2_2 := oT hO s2_1 rfl
 have s4_2 := oT hO s4_1 rfl
 have s7_2 := oT hO s7_1 rfl
 have s8_2 := oT hO s8_1 rfl
 have B4_2 := B4_1.ext' hR
 have B7_2 := B7_1.ext' hR
 have B8_2 := B8_1.ext' hR
 have s12_2 : get a2 12 = Value.bool (!(highB h)) := t12
 clear E1 N1 D1 s1_1 s2_1 s4_1 s7_1 s8_1 B4_1 B7_1 B8_1
 refine tail_nil ?_
 refine wp_if (B := !(highB h)) s12_2 (fun hc0 => ?_) (fun hc0 => ?_)
 have hb : ¬ (0 ≤ h ∧ h ≤ 4) := by simp [highB] at hc0; omega
 refine wp_seq ?_
 refine Rl [] [(16, Pr.ex (Value.agg #[i64 ((0 : Nat) : Int), Value.slice none 0 0, Value.slice none 0 0]))] 1 N2 D2 ?_ ?_
 refine Ac ?_ (Az _)
 exact Ap fun aq wq _ hO hR hT => does_build (vs := #[]) (V := Value.agg #[i64 ((0 : Nat) : Int), Value.slice none 0 0, Value.slice none 0 0]) parts0 (by kernel_rfl) eR
 intro a3 wd3 N3 D3 hO hR hA hU
 obtain ⟨t16, _⟩ := hA
 have E3 := E2.trans hR
 have s8_3 := oT hO s8_2 rfl
 have B4_3 := B4_2.ext' hR
 have B7_3 := B7_2.ext' hR
 have B8_3 := B8_2.ext' hR
 have s16_3 : get a3 16 = Value.agg #[i64 ((0 : Nat) : Int), Value.slice none 0 0, Value.slice none 0 0] := t16
 clear E2 N2 D2 s1_2 s2_2 s4_2 s7_2 s8_2 s12_2 B4_2 B7_2 B8_2
 refine tail_none rfl rfl (does_storeD (o := 0) (n := 3) (cs' := [i64 ((0 : Nat) : Int), Value.slice none 0 0, Value.slice none 0 0]) (V := Value.agg #[i64 ((0 : Nat) : Int), Value.slice none 0 0, Value.slice none 0 0]) s8_3 s16_3 B8_3 (nB rfl) rfl siz_30 rfl rfl (fun wd4 hX hz B8_4 => ?_))
 have E4 := E3.since hX (fun k e => e ▸ fr_b8)
 have B4_4 := B4_3.ext hX ne_b4_b8
 have B7_4 := B7_3.ext hX ne_b7_b8
 clear hX hz E3 B4_3 B7_3 B8_3
 refine tail_put rfl rfl N3 D3 (by decide) (does_assign (V := i64 ((2 : Nat) : Int)) rfl (fun a5 N5 D5 hv hO => ?_))
 have s9_5 := hv
 have s8_5 := oT hO s8_3 rfl
 clear hO hv N3 D3 s8_3 s16_3
 refine tail_nil ?_
 refine wp_ret ?_
 refine res_two (V1 := Value.agg #[i64 ((0 : Nat) : Int), Value.slice none 0 0, Value.slice none 0 0]) (V2 := i64 ((2 : Nat) : Int)) rfl D5 (ResIs.cell s8_5 B8_4 row_30 rfl rfl) s9_5 ?_
 rw [keySign_no hb]
 exact ⟨⟨_, _, rfl, ⟨_, _, rfl, OwnT.nil DG _ 24 _, OwnT.nil DG _ 24 _⟩, rfl⟩, E4⟩
 have hb : 0 ≤ h ∧ h ≤ 4 := by simpa [highB] using hc0
 refine wp_seq ?_
 obtain ⟨n, rfl⟩ : ∃ n : Nat, h = (n : Int) := ⟨(h).toNat, by omega⟩
 have hn4 : n ≤ 4 := by omega
 have hp16 := pw_small hn4
 refine Rl [] [(18, Pr.ex (i64 (i))), (19, Pr.ex (Value.bool (decide (i < ((0 : Nat) : Int))))), (20, Pr.ex (Value.bool (decide (i < ((0 : Nat) : Int))))), (21, Pr.ifb (!(decide (i < ((0 : Nat) : Int)))) (Pr.ex (i64 (i)))), (22, Pr.ifb (!(decide (i < ((0 : Nat) : Int)))) (Pr.ex (i64 (n : Int)))), (23, Pr.ifb (!(decide (i < ((0 : Nat) : Int)))) (Pr.ex (i64 ((pw n : Nat) : Int)))), (24, Pr.ifb (!(decide (i < ((0 : Nat) : Int)))) (Pr.ex (Value.bool (decide (((pw n : Nat) : Int) ≤ i))))), (25, Pr.ex (Value.bool ((decide (i < ((0 : Nat) : Int))) || (decide (((pw n : Nat) : Int) ≤ i))))), (17, Pr.ex (Value.bool ((decide (i < ((0 : Nat) : Int))) || (decide (((pw n : Nat) : Int) ≤ i)))))] 9 N2 D2 ?_ ?_
 refine Ac ?_ (Ac ?_ (Ac ?_ (Ac ?_ (Ac ?_ (Ac ?_ (Ac ?_ (Ac ?_ (Ac ?_ (Az _)))))))))
 exact Am s2_2 rfl fun _ => rfl
 exact Ap fun aq wq _ hO hR hT => does_lss (a := i) (b := ((0 : Nat) : Int)) (hT 18 rfl rfl) rfl eR
 exact Ap fun aq wq _ hO hR hT => does_move (V := Value.bool (decide (i < ((0 : Nat) : Int)))) (hT 19 rfl rfl) eR
 refine Ask.guarded (B := decide (i < ((0 : Nat) : Int))) (want := false) (t := 20) rfl rfl rfl rfl (by decide) (fun aq wq hO hR hT => hT 20 rfl rfl) (fun hG aq wq hNq hO hR hT => ?_) (fun hno _ => fun hc => absurd (bn hc) hno)
 replace hG := nb hG
 exact does_move (V := i64 (i)) (oT hO s2_2 rfl) ⟨Ext.refl _, fun _ => rfl⟩
 refine Ask.guarded (B := decide (i < ((0 : Nat) : Int))) (want := false) (t := 20) rfl rfl rfl rfl (by decide) (fun aq wq hO hR hT => hT 20 rfl rfl) (fun hG aq wq hNq hO hR hT => ?_) (fun hno _ => fun hc => absurd (bn hc) hno)
 replace hG := nb hG
 exact does_move (V := i64 (n : Int)) (oT hO s1_2 rfl) ⟨Ext.refl _, fun _ => rfl⟩
 refine Ask.guarded (B := decide (i < ((0 : Nat) : Int))) (want := false) (t := 20) rfl rfl rfl rfl (by decide) (fun aq wq hO hR hT => hT 20 rfl rfl) (fun hG aq wq hNq hO hR hT => ?_) (fun hno _ => fun hc => absurd (bn hc) hno)
 replace hG := nb hG
 exact does_shl (k := .i64) (k' := .i64) (a := 1) (b := (n : Int)) (r := ((pw n : Nat) : Int)) rfl (hT 22 rfl rfl hG) (by omega) (by simp only [IntKind.bits]; omega) (shl_one hn4) ⟨Ext.refl _, fun _ => rfl⟩
 refine Ask.guarded (B := decide (i < ((0 : Nat) : Int))) (want := false) (t := 20) rfl rfl rfl rfl (by decide) (fun aq wq hO hR hT => hT 20 rfl rfl) (fun hG aq wq hNq hO hR hT => ?_) (fun hno _ => fun hc => absurd (bn hc) hno)
 replace hG := nb hG
 exact does_geq (a := i) (b := ((pw n : Nat) : Int)) (hT 21 rfl rfl hG) (hT 23 rfl rfl hG) ⟨Ext.refl _, fun _ => rfl⟩
 exact Ap fun aq wq _ hO hR hT => does_or (B := decide (i < ((0 : Nat) : Int))) (X := decide (((pw n : Nat) : Int) ≤ i)) (hT 20 rfl rfl) rfl (fun hB => (hT 24 rfl rfl (nb hB))) eR
 exact Ap fun aq wq _ hO hR hT => does_assign (V := Value.bool ((decide (i < ((0 : Nat) : Int))) || (decide (((pw n : Nat) : Int) ≤ i)))) (hT 25 rfl rfl) eR
 intro a6 wd6 N6 D6 hO hR hA hU
 obtain ⟨_, _, _, _, _, _, _, _, t17, _⟩ := hA
 have E6 := E2.trans hR
 have s1_6 := oT hO s1_2 rfl
 have s2_6 := oT hO s2_2 rfl
 have s4_6 := oT hO s4_2 rfl
 have s7_6 := oT hO s7_2 rfl
 have s8_6 := oT hO s8_2 rfl
 have B4_6 := B4_2.ext' hR
 have B7_6 := B7_2.ext' hR
 have B8_6 := B8_2.ext' hR
 have s17_6 : get a6 17 = Value.bool ((decide (i < ((0 : Nat) : Int))) || (decide (((pw n : Nat) : Int) ≤ i))) := t17
 clear E2 N2 D2 s1_2 s2_2 s4_2 s7_2 s8_2 s12_2 B4_2 B7_2 B8_2
 refine tail_nil ?_
 refine wp_if (B := (decide (i < ((0 : Nat) : Int))) || (decide (((pw n : Nat) : Int) ≤ i))) s17_6 (fun hc1 => ?_) (fun hc1 => ?_)
 have hbi : ¬ (0 ≤ i ∧ i < ((pw n : Nat) : Int)) := by rintro ⟨h1, h2⟩; have e1 : decide (i < ((0 : Nat) : Int)) = false := decide_eq_false (by omega); have e2 : decide (((pw n : Nat) : Int) ≤ i) = false := decide_eq_false (by omega); rw [e1, e2] at hc1; cases hc1
 refine wp_seq ?_
 refine Rl [] [(26, Pr.ex (Value.agg #[i64 ((0 : Nat) : Int), Value.slice none 0 0, Value.slice none 0 0]))] 1 N6 D6 ?_ ?_
 refine Ac ?_ (Az _)
 exact Ap fun aq wq _ hO hR hT => does_build (vs := #[]) (V := Value.agg #[i64 ((0 : Nat) : Int), Value.slice none 0 0, Value.slice none 0 0]) parts0 (by kernel_rfl) eR
 intro a7 wd7 N7 D7 hO hR hA hU
 obtain ⟨t26, _⟩ := hA
 have E7 := E6.trans hR
 have s8_7 := oT hO s8_6 rfl
 have B4_7 := B4_6.ext' hR
 have B7_7 := B7_6.ext' hR
 have B8_7 := B8_6.ext' hR
 have s26_7 : get a7 26 = Value.agg #[i64 ((0 : Nat) : Int), Value.slice none 0 0, Value.slice none 0 0] := t26
 clear E6 N6 D6 s1_6 s2_6 s4_6 s7_6 s8_6 s17_6 B4_6 B7_6 B8_6
 refine tail_none rfl rfl (does_storeD (o := 0) (n := 3) (cs' := [i64 ((0 : Nat) : Int), Value.slice none 0 0, Value.slice none 0 0]) (V := Value.agg #[i64 ((0 : Nat) : Int), Value.slice none 0 0, Value.slice none 0 0]) s8_7 s26_7 B8_7 (nB rfl) rfl siz_30 rfl rfl (fun wd8 hX hz B8_8 => ?_))
 have E8 := E7.since hX (fun k e => e ▸ fr_b8)
 have B4_8 := B4_7.ext hX ne_b4_b8
 have B7_8 := B7_7.ext hX ne_b7_b8
 clear hX hz E7 B4_7 B7_7 B8_7
 refine tail_put rfl rfl N7 D7 (by decide) (does_assign (V := i64 ((1 : Nat) : Int)) rfl (fun a9 N9 D9 hv hO => ?_))
 have s9_9 := hv
 have s8_9 := oT hO s8_7 rfl
 clear hO hv N7 D7 s8_7 s26_7
 refine tail_nil ?_
 refine wp_ret ?_
 refine res_two (V1 := Value.agg #[i64 ((0 : Nat) : Int), Value.slice none 0 0, Value.slice none 0 0]) (V2 := i64 ((1 : Nat) : Int)) rfl D9 (ResIs.cell s8_9 B8_8 row_30 rfl rfl) s9_9 ?_
 rw [keySign_arg hn4 hbi]
 exact ⟨⟨_, _, rfl, ⟨_, _, rfl, OwnT.nil DG _ 24 _, OwnT.nil DG _ 24 _⟩, rfl⟩, E8⟩
 have hbi : 0 ≤ i ∧ i < ((pw n : Nat) : Int) := by simpa using hc1
 refine wp_skip ?_
 refine wp_seq ?_
 obtain ⟨j, rfl⟩ : ∃ n : Nat, i = (n : Int) := ⟨(i).toNat, by omega⟩
 have hj : j < pw n := by omega
 refine Rl [] [(28, Pr.ex (Dg.val (seed))), (29, Pr.ex (i64 (n : Int))), (30, Pr.own' DG wd6.heap.size 24 (publics seed (pw n))), (31, Pr.ex (i64 (j : Int))), (32, Pr.t2 (Pr.own' DG wd6.heap.size 24 ((prove (publics seed (pw n)) ((j : Int))).1)) (Pr.ex (i64 (((prove (publics seed (pw n)) ((j : Int))).2 : Nat) : Int)))), (27, Pr.t2 (Pr.own' DG wd6.heap.size 24 ((prove (publics seed (pw n)) ((j : Int))).1)) (Pr.ex (i64 (((prove (publics seed (pw n)) ((j : Int))).2 : Nat) : Int)))), (33, Pr.own' DG wd6.heap.size 24 ((prove (publics seed (pw n)) ((j : Int))).1)), (34, Pr.ex (i64 (((prove (publics seed (pw n)) ((j : Int))).2 : Nat) : Int))), (10, Pr.own' DG wd6.heap.size 24 ((prove (publics seed (pw n)) ((j : Int))).1)), (11, Pr.ex (i64 (((prove (publics seed (pw n)) ((j : Int))).2 : Nat) : Int)))] 10 N6 D6 ?_ ?_
 refine Ac ?_ (Ac ?_ (Ac ?_ (Ac ?_ (Ac ?_ (Ac ?_ (Ac ?_ (Ac ?_ (Ac ?_ (Ac ?_ (Az _))))))))))
 exact Ap fun aq wq _ hO hR hT => does_loadD (o := 0) (n := 4) (mid := [w32 (seed).a, w32 (seed).b, w32 (seed).c, w32 (seed).d]) (oT hO s4_6 rfl) (B4_6.ext' hR) rfl rfl (nB rfl) row_24 rfl eR
 exact Am s1_6 rfl fun _ => rfl
 exact Ap fun aq wq _ hO hR hT => does_ret (vs := #[Dg.val (seed), i64 (n : Int)]) call_32 (args2 (hT 28 rfl rfl) (hT 29 rfl rfl)) rfl ((publics_ seed n wq (hL.ext (E6.trans hR)) hn4).mono fun v w2 h => ⟨h.2, OwnT.base h.1 hR.size'⟩)
 exact Am s2_6 rfl fun _ => rfl
 exact Ap fun aq wq _ hO hR hT => does_ret (vs := #[get aq 30, i64 (j : Int)]) call_53 (args2 rfl (hT 31 rfl rfl)) rfl ((prove_ (publics seed (pw n)) ((j : Int)) (get aq 30) wq (hL.ext (E6.trans hR)) (((OwnT.sl (hT 30 rfl rfl)).wide (Nat.zero_le _) (.inl rfl)).wide (Nat.zero_le _) (.inl rfl)) (by rw [publics_length]; omega)).mono fun v w2 h => ⟨h.2, by obtain ⟨x0, x1, hv, k0, k1⟩ := h.1; exact ⟨x0, x1, hv, OwnT.base k0 hR.size', k1⟩⟩)
 exact Ap fun aq wq _ hO hR hT => does_move rfl ⟨Ext.refl _, (hT 32 rfl rfl)⟩
 exact Ap fun aq wq _ hO hR hT => by
  obtain ⟨x0, x1, hv, k0, k1⟩ := (hT 27 rfl rfl)
  exact does_extract hv rfl ⟨Ext.refl _, k0⟩
 exact Ap fun aq wq _ hO hR hT => by
  obtain ⟨x0, x1, hv, k0, k1⟩ := (hT 27 rfl rfl)
  exact does_extract (V := i64 (((prove (publics seed (pw n)) ((j : Int))).2 : Nat) : Int)) hv (by rw [show x1 = i64 (((prove (publics seed (pw n)) ((j : Int))).2 : Nat) : Int) from k1]; rfl) ⟨Ext.refl _, rfl⟩
 exact Ap fun aq wq _ hO hR hT => does_assign rfl ⟨Ext.refl _, (hT 33 rfl rfl)⟩
 exact Ap fun aq wq _ hO hR hT => does_assign (V := i64 (((prove (publics seed (pw n)) ((j : Int))).2 : Nat) : Int)) (hT 34 rfl rfl) eR
 intro a10 wd10 N10 D10 hO hR hA hU
 obtain ⟨_, _, _, _, _, _, _, _, t10, _, _⟩ := hA
 have E10 := E6.trans hR
 have s2_10 := oT hO s2_6 rfl
 have s4_10 := oT hO s4_6 rfl
 have s7_10 := oT hO s7_6 rfl
 have s8_10 := oT hO s8_6 rfl
 have B4_10 := B4_6.ext' hR
 have B7_10 := B7_6.ext' hR
 have B8_10 := B8_6.ext' hR
 obtain ⟨x10, s10_10⟩ : ∃ x, get a10 10 = x := ⟨_, rfl⟩
 replace t10 : OwnT DG wd6.heap.size 24 ((prove (publics seed (pw n)) ((j : Int))).1) x10 wd10 := by rw [← s10_10]; exact t10
 have nbo_x10_b4 := Ob1 t10 B4_6
 have nbo_x10_b7 := Ob1 t10 B7_6
 have nbo_x10_b8 := Ob1 t10 B8_6
 have X10_10 := t10.sl.wide (Nat.zero_le _) (.inl rfl)
 have O10_10 := OwnT.base t10 E6.size'
 clear E6 N6 D6 s1_6 s2_6 s4_6 s7_6 s8_6 s17_6 B4_6 B7_6 B8_6
 refine tail_nil ?_
 refine wp_seq ?_
 refine region_anyF 112 [(35, Pr.ex (i64 (j : Int))), (36, Pr.ex (Dg.val (seed))), (37, Pr.fnR 77 wd10.heap.size 112 seed.a seed.b seed.c seed.d), (38, Pr.ex (i64 (j : Int))), (39, Pr.ex (Dg.val (seedAt seed j))), (40, Pr.ex (Dg.val (msg))), (41, Pr.ownR DG wd10.heap.size 24 (signed (seedAt seed j) msg) (by decide)), (42, Pr.ex (x10))] 4 8 mixed N10 D10 (by kernel_rfl) (by kernel_rfl) ?_ ?_
 refine AsksR.cons ?_ (AsksR.cons ?_ (AsksR.cons ?_ (AsksR.cons ?_ (AsksR.cons ?_ (AsksR.cons ?_ (AsksR.cons ?_ (AsksR.cons ?_ (AsksR.zero _))))))))
 refine AskR.plain rfl rfl rfl ?_
 intro aq wq hNq hO hR hT
 replace hR := (Four.of (Ext.drew _)).trans hR
 exact does_move (V := i64 (j : Int)) (oT hO s2_10 rfl) ⟨Ext.refl _, rfl⟩
 refine AskR.plain rfl rfl rfl ?_
 intro aq wq hNq hO hR hT
 replace hR := (Four.of (Ext.drew _)).trans hR
 exact does_loadD (o := 0) (n := 4) (mid := [w32 (seed).a, w32 (seed).b, w32 (seed).c, w32 (seed).d]) (oT hO s4_10 rfl) (B4_10.ext hR.ext (fun e => Nat.not_lt_of_le e.1 B4_10.lt)) rfl rfl (nB rfl) row_24 rfl ⟨Ext.refl _, rfl⟩
 refine AskR.plain rfl rfl rfl ?_
 intro aq wq hNq hO hR hT
 replace hR := (Four.of (Ext.drew _)).trans hR
 exact does_ret (vs := #[Dg.val (seed)]) call_51 (args1 (hT 36 rfl rfl)) rfl ((seeds_ seed wq).mono fun v w2 h => ⟨h.2, FnR.of h.1 hR.size'⟩)
 refine AskR.plain rfl rfl rfl ?_
 intro aq wq hNq hO hR hT
 replace hR := (Four.of (Ext.drew _)).trans hR
 exact does_move (V := i64 (j : Int)) (oT hO s2_10 rfl) ⟨Ext.refl _, rfl⟩
 refine AskR.write rfl rfl rfl ?_
 intro aq wq hNq hO hR hT
 replace hR := (Ext.drew _).trans hR
 obtain ⟨bq, uq, hfq, hlq, hbq⟩ := hT 37 rfl rfl
 exact does_retv (vs := #[i64 (j : Int)]) (cap := #[Value.pointer (some ⟨bq, 0, none⟩)]) call_77 (args1 (hT 38 rfl rfl)) hfq ((seed1 seed uq j bq wq (hL.ext (E10.trans hR)) (by have h1 := Laid.pos (hL.ext E10); omega) hbq).mono fun v w2 h => ⟨Four.write h.2.1 hlq hbq h.2.2, h.1⟩)
 refine AskR.plain rfl rfl rfl ?_
 intro aq wq hNq hO hR hT
 replace hR := (Four.of (Ext.drew _)).trans hR
 exact does_loadD (o := 0) (n := 4) (mid := [w32 (msg).a, w32 (msg).b, w32 (msg).c, w32 (msg).d]) (oT hO s7_10 rfl) (B7_10.ext hR.ext (fun e => Nat.not_lt_of_le e.1 B7_10.lt)) rfl rfl (nB rfl) row_24 rfl ⟨Ext.refl _, rfl⟩
 refine AskR.plain rfl rfl rfl ?_
 intro aq wq hNq hO hR hT
 replace hR := (Four.of (Ext.drew _)).trans hR
 exact does_ret (vs := #[Dg.val (seedAt seed j), Dg.val (msg)]) call_54 (args2 (hT 39 rfl rfl) (hT 40 rfl rfl)) rfl ((sign1 (seedAt seed j) msg wq (hL.ext (E10.since hR.ext (fun k e => Nat.le_trans E10.size' e.1)))).mono fun v w2 h => ⟨h.2, OwnT.base h.1 hR.size'⟩)
 refine AskR.plain rfl rfl rfl ?_
 intro aq wq hNq hO hR hT
 replace hR := (Four.of (Ext.drew _)).trans hR
 exact does_move (V := x10) (oT hO s10_10 rfl) ⟨Ext.refl _, rfl⟩
 intro a11 wd11 N11 D11 hO hR hA
 obtain ⟨t35, _, _, _, _, _, t41, t42, _⟩ := hA
 have E11 := E10.since hR.ext (fun k e => Nat.le_trans E10.size' e.1)
 have B4_11 := B4_10.ext hR.ext (fun e => Nat.not_lt_of_le e.1 B4_10.lt)
 have B7_11 := B7_10.ext hR.ext (fun e => Nat.not_lt_of_le e.1 B7_10.lt)
 have B8_11 := B8_10.ext hR.ext (fun e => Nat.not_lt_of_le e.1 B8_10.lt)
 have O10_11 := OwnT.ext O10_10 hR.ext (fun b hb e => Nat.not_lt_of_le e.1 (OwnT.block_lt O10_10 hb).2)
 have X10_11 := O10_11.sl.wide (Nat.zero_le _) (.inl rfl)
 have s8_11 := oT hO s8_10 rfl
 have s35_11 : get a11 35 = i64 (j : Int) := t35
 obtain ⟨x41, s41_11⟩ : ∃ x, get a11 41 = x := ⟨_, rfl⟩
 replace t41 : OwnT DG wd10.heap.size 24 (signed (seedAt seed j) msg) x41 wd11 := by rw [← s41_11]; exact t41
 have nbo_x41_b4 := Ob1 t41 B4_10
 have nbo_x41_b7 := Ob1 t41 B7_10
 have nbo_x41_b8 := Ob1 t41 B8_10
 have no_x41_x10 := Oo t41 O10_10
 have X41_11 := t41.sl.wide (Nat.zero_le _) (.inl rfl)
 have O41_11 := OwnT.base t41 E10.size'
 have s42_11 : get a11 42 = x10 := t42
 clear hO hR N10 D10 E10 B4_10 B7_10 B8_10 O10_10 X10_10 s2_10 s4_10 s7_10 s8_10 s10_10
 refine tail_put rfl rfl N11 D11 (by decide) (does_build (vs := #[(0, i64 (j : Int)), (1, x41), (2, x10)]) (V := Value.agg #[i64 (j : Int), x41, x10]) (parts3 s35_11 s41_11 s42_11) (by obtain ⟨sa1, sc1, hv1, _⟩ := X41_11; rw [hv1]; obtain ⟨sa2, sc2, hv2, _⟩ := X10_11; rw [hv2]; kernel_rfl) (fun a12 N12 D12 hv hO => ?_))
 have s43_12 := hv
 have s8_12 := oT hO s8_11 rfl
 clear hO hv N11 D11 s8_11 s35_11 s41_11 s42_11
 refine tail_none rfl rfl (does_storeD (o := 0) (n := 3) (cs' := [i64 (j : Int), x41, x10]) (V := Value.agg #[i64 (j : Int), x41, x10]) s8_12 s43_12 B8_11 (nB rfl) rfl siz_30 (one_cons rfl (one_cons (SlT.one X41_11) (one_cons (SlT.one X10_11) one_nil))) rfl (fun wd13 hX hz B8_13 => ?_))
 have E13 := E11.since hX (fun k e => e ▸ fr_b8)
 have B4_13 := B4_11.ext hX ne_b4_b8
 have B7_13 := B7_11.ext hX ne_b7_b8
 have X10_13 := SlT.over X10_11 hX (fun _ => nbo_x10_b8)
 have X41_13 := SlT.over X41_11 hX (fun _ => nbo_x41_b8)
 have O10_13 := OwnT.ext O10_11 hX (fun k hk e => nbo_x10_b8 (e ▸ hk))
 have O41_13 := OwnT.ext O41_11 hX (fun k hk e => nbo_x41_b8 (e ▸ hk))
 clear hX hz E11 B4_11 B7_11 B8_11 X10_11 X41_11 O10_11 O41_11
 refine tail_put rfl rfl N12 D12 (by decide) (does_assign (V := i64 ((0 : Nat) : Int)) rfl (fun a14 N14 D14 hv hO => ?_))
 have s9_14 := hv
 have s8_14 := oT hO s8_12 rfl
 clear hO hv N12 D12 s8_12 s43_12
 refine tail_nil ?_
 refine wp_ret ?_
 refine res_two (V1 := Value.agg #[i64 (j : Int), x41, x10]) (V2 := i64 ((0 : Nat) : Int)) rfl D14 (ResIs.cell s8_14 B8_13 row_30 rfl rfl) s9_14 ?_
 have ho1 := O41_13
 have ho2 := O10_13
 rw [prove_pub hj] at ho2
 rw [keySign_ok hn4 hj]
 exact ⟨⟨_, _, rfl, ⟨_, _, rfl, ho1, ho2⟩, rfl⟩, E13⟩

theorem keySign_k (seed : Dg) (n j : Nat) (msg : Dg) (w0 : World) (hL : Laid w0) (hn : n ≤ 4) (hj : j < pw n) : Gives Tryd.prog 33 #[Dg.val seed, i64 (n : Int), i64 (j : Int), Dg.val msg] w0 (Pr.t2 (Pr.ag2 (fun x y => Value.agg #[i64 (j : Int), x, y]) (Pr.own' DG w0.heap.size 24 (signed (seedAt seed j) msg)) (Pr.own' DG w0.heap.size 24 (way (publics seed (pw n)) j))) (Pr.ex (i64 ((0 : Nat) : Int)))) := by
  have h := keySign_ seed n j msg w0 hL
  rw [keySign_ok hn hj] at h
  exact h

end Go.Proofs.YtmmghpbncejfiaaDoor
