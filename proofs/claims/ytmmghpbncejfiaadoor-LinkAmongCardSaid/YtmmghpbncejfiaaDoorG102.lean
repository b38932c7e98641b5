/- The walks of functions of the program: printed. -/
import Derived.Test.YtmmghpbncejfiaaDoorKB
import Derived.Test.YtmmghpbncejfiaaDoorG11
import Derived.Test.YtmmghpbncejfiaaDoorG98
import Derived.Test.YtmmghpbncejfiaaDoorG99
import Derived.Test.YtmmghpbncejfiaaDoorG100
import Derived.Test.YtmmghpbncejfiaaDoorF0
set_option maxRecDepth 100000
namespace Go.Proofs.YtmmghpbncejfiaaDoor
open Go Go.RowKit Sk Sd
theorem keySignR (seed : Dg) (h i : Int) (msg : Dg) (w0 : World) :
    Gives Tryd.prog 29 #[Dg.val (seed), i64 (h), i64 (i), Dg.val (msg)] w0 (Pr.t2 (Pr.ag2 (fun x y => Value.agg #[i64 (keySign seed h i msg).1, x, y]) (Pr.own' DG w0.heap.size 24 ((keySign seed h i msg).2.1)) (Pr.own' DG w0.heap.size 24 ((keySign seed h i msg).2.2.1))) (Pr.ex (i64 (((keySign seed h i msg).2.2.2 : Nat) : Int)))) := by
 refine enter (N := 46) Tryd.func29 rfl rfl ?_
 intro a0 N0 D0 hA
 have s0_0 : get a0 0 = Dg.val (seed) := hA 0 _ rfl
 have s1_0 : get a0 1 = i64 (h) := hA 1 _ rfl
 have s2_0 : get a0 2 = i64 (i) := hA 2 _ rfl
 have s3_0 : get a0 3 = Dg.val (msg) := hA 3 _ rfl
 clear hA
 have E0 : Ext w0 w0 := Ext.refl w0
 refine wp_seq ?_
 refine Rl [4, 7, 8] [(4, Pr.box' w0.heap.size 24 [w32 (seed).a, w32 (seed).b, w32 (seed).c, w32 (seed).d]), (7, Pr.box' w0.heap.size 24 [w32 (msg).a, w32 (msg).b, w32 (msg).c, w32 (msg).d]), (8, Pr.box' w0.heap.size 30 [i64 ((0 : Nat) : Int), Value.slice none 0 0, Value.slice none 0 0]), (9, Pr.ex (i64 ((0 : Nat) : Int)))] 4 N0 D0 ?_ ?_
 refine Ac ?_ (Ac ?_ (Ac ?_ (Ac ?_ (Az _))))
 refine Ask.fresh rfl rfl ?_
 intro aq wq hNq hO hR hT
 exact does_box (V := Dg.val (seed)) (oT hO s0_0 rfl) (fun b w2 he hlo hb => ⟨he, ⟨b, rfl, Nat.le_trans hR.size' hlo, hb⟩, ⟨b, rfl, hlo, hb.lt⟩⟩)
 refine Ask.fresh rfl rfl ?_
 intro aq wq hNq hO hR hT
 exact does_box (V := Dg.val (msg)) (oT hO s3_0 rfl) (fun b w2 he hlo hb => ⟨he, ⟨b, rfl, Nat.le_trans hR.size' hlo, hb⟩, ⟨b, rfl, hlo, hb.lt⟩⟩)
 refine Ask.fresh rfl rfl ?_
 intro aq wq hNq hO hR hT
 exact does_alloc zero_30 (fun b w2 he hlo hb => ⟨he, ⟨b, rfl, Nat.le_trans hR.size' hlo, hb⟩, ⟨b, rfl, hlo, hb.lt⟩⟩)
 exact Ap fun aq wq _ hO hR hT => does_assign (V := i64 ((0 : Nat) : Int)) rfl eR
 intro a1 wd1 N1 D1 hO hR hA hU
 obtain ⟨t4, t7, t8, _, _⟩ := hA
 have E1 := E0.trans hR
 have s1_1 := oT hO s1_0 rfl
 have s2_1 := oT hO s2_0 rfl
 obtain ⟨b4, s4_1, lo_b4, B4_1⟩ := t4
 have fr_b4 : w0.heap.size ≤ b4 := Nat.le_trans E0.size' lo_b4
 obtain ⟨b7, s7_1, lo_b7, B7_1⟩ := t7
 have fr_b7 : w0.heap.size ≤ b7 := Nat.le_trans E0.size' lo_b7
 obtain ⟨b8, s8_1, lo_b8, B8_1⟩ := t8
 have fr_b8 : w0.heap.size ≤ b8 := Nat.le_trans E0.size' lo_b8
 obtain ⟨u0, ⟨u1, ⟨u2, _⟩⟩⟩ := hU
 have ne_b4_b7 : b4 ≠ b7 := fun e => u0 7 (by decide) (by rw [s4_1, s7_1, e])
 have ne_b4_b8 : b4 ≠ b8 := fun e => u0 8 (by decide) (by rw [s4_1, s8_1, e])
 have ne_b7_b8 : b7 ≠ b8 := fun e => u1 8 (by decide) (by rw [s7_1, s8_1, e])
 clear E0 N0 D0 s0_0 s1_0 s2_0 s3_0
 refine tail_nil ?_
 refine wp_seq ?_
 refine wp_seq ?_
 refine Rl [] [(13, Pr.ex (i64 (h))), (14, Pr.ex (Value.bool (decide (h < ((0 : Nat) : Int))))), (15, Pr.ex (Value.bool (decide (h < ((0 : Nat) : Int))))), (16, Pr.ifb (!(decide (h < ((0 : Nat) : Int)))) (Pr.ex (i64 (h)))), (17, Pr.ifb (!(decide (h < ((0 : Nat) : Int)))) (Pr.ex (Value.bool (decide (((4 : Nat) : Int) < h))))), (18, Pr.ex (Value.bool ((decide (h < ((0 : Nat) : Int))) || (decide (((4 : Nat) : Int) < h)))))] 6 N1 D1 ?_ ?_
 refine Ac ?_ (Ac ?_ (Ac ?_ (Ac ?_ (Ac ?_ (Ac ?_ (Az _))))))
 exact Am s1_1 rfl fun _ => rfl
 exact Ap fun aq wq _ hO hR hT => does_lss (a := h) (b := ((0 : Nat) : Int)) (hT 13 rfl rfl) rfl eR
 exact Ap fun aq wq _ hO hR hT => does_move (V := Value.bool (decide (h < ((0 : Nat) : Int)))) (hT 14 rfl rfl) eR
 refine Ask.guarded (B := decide (h < ((0 : Nat) : Int))) (want := false) (t := 15) rfl rfl rfl rfl (by decide) (fun aq wq hO hR hT => hT 15 rfl rfl) (fun hG aq wq hNq hO hR hT => ?_) (fun hno _ => fun hc => absurd (bn hc) hno)
 replace hG := nb hG
 exact does_move (V := i64 (h)) (oT hO s1_1 rfl) ⟨Ext.refl _, fun _ => rfl⟩
 refine Ask.guarded (B := decide (h < ((0 : Nat) : Int))) (want := false) (t := 15) rfl rfl rfl rfl (by decide) (fun aq wq hO hR hT => hT 15 rfl rfl) (fun hG aq wq hNq hO hR hT => ?_) (fun hno _ => fun hc => absurd (bn hc) hno)
 replace hG := nb hG
 exact does_gtr (a := h) (b := ((4 : Nat) : Int)) (hT 16 rfl rfl hG) rfl ⟨Ext.refl _, fun _ => rfl⟩
 exact Ap fun aq wq _ hO hR hT => does_or (B := decide (h < ((0 : Nat) : Int))) (X := decide (((4 : Nat) : Int) < h)) (hT 15 rfl rfl) rfl (fun hB => (hT 17 rfl rfl (nb hB))) eR
 intro a2 wd2 N2 D2 hO hR hA hU
 obtain ⟨_, _, _, _, _, t18, _⟩ := hA
 have E2 := E1.trans hR
 have s1_2 := oT hO s1_1 rfl
 have s2_2 := oT hO s2_1 rfl
 have s4_2 := oT hO s4_1 rfl
 have s7_2 := oT hO s7_1 rfl
 have s8_2 := oT hO s8_1 rfl
 have B4_2 := B4_1.ext' hR
 have B7_2 := B7_1.ext' hR
 have B8_2 := B8_1.ext' hR
 have s18_2 : get a2 18 = Value.bool ((decide (h < ((0 : Nat) : Int))) || (decide (((4 : Nat) : Int) < h))) := t18
 clear E1 N1 D1 s1_1 s2_1 s4_1 s7_1 s8_1 B4_1 B7_1 B8_1
 refine tail_nil ?_
 refine wp_if (B := (decide (h < ((0 : Nat) : Int))) || (decide (((4 : Nat) : Int) < h))) s18_2 (fun hc0 => ?_) (fun hc0 => ?_)
 have hb : ¬ (0 ≤ h ∧ h ≤ 4) := by simp at hc0; omega
 refine wp_seq ?_
 refine Rl [] [(19, Pr.ex (Value.agg #[i64 ((0 : Nat) : Int), Value.slice none 0 0, Value.slice none 0 0]))] 1 N2 D2 ?_ ?_
 refine Ac ?_ (Az _)
 exact Ap fun aq wq _ hO hR hT => does_build (vs := #[]) (V := Value.agg #[i64 ((0 : Nat) : Int), Value.slice none 0 0, Value.slice none 0 0]) parts0 (by kernel_rfl) eR
 intro a3 wd3 N3 D3 hO hR hA hU
 obtain ⟨t19, _⟩ := hA
 have E3 := E2.trans hR
 have s8_3 := oT hO s8_2 rfl
 have B4_3 := B4_2.ext' hR
 have B7_3 := B7_2.ext' hR
 have B8_3 := B8_2.ext' hR
 have s19_3 : get a3 19 = Value.agg #[i64 ((0 : Nat) : Int), Value.slice none 0 0, Value.slice none 0 0] := t19
 clear E2 N2 D2 s1_2 s2_2 s4_2 s7_2 s8_2 s18_2 B4_2 B7_2 B8_2
 refine tail_none rfl rfl (does_storeD (o := 0) (n := 3) (cs' := [i64 ((0 : Nat) : Int), Value.slice none 0 0, Value.slice none 0 0]) (V := Value.agg #[i64 ((0 : Nat) : Int), Value.slice none 0 0, Value.slice none 0 0]) s8_3 s19_3 B8_3 (nB rfl) rfl siz_30 rfl rfl (fun wd4 hX hz B8_4 => ?_))
 have E4 := E3.since hX (fun k e => e ▸ fr_b8)
 have B4_4 := B4_3.ext hX ne_b4_b8
 have B7_4 := B7_3.ext hX ne_b7_b8
 clear hX hz E3 B4_3 B7_3 B8_3
 refine tail_put rfl rfl N3 D3 (by decide) (does_assign (V := i64 ((2 : Nat) : Int)) rfl (fun a5 N5 D5 hv hO => ?_))
 have s9_5 := hv
 have s8_5 := oT hO s8_3 rfl
 clear hO hv N3 D3 s8_3 s19_3
 refine tail_nil ?_
 refine wp_ret ?_
 refine res_two (V1 := Value.agg #[i64 ((0 : Nat) : Int), Value.slice none 0 0, Value.slice none 0 0]) (V2 := i64 ((2 : Nat) : Int)) rfl D5 (ResIs.cell s8_5 B8_4 row_30 rfl rfl) s9_5 ?_
 rw [keySign_no hb]
 exact ⟨⟨_, _, rfl, ⟨_, _, rfl, OwnT.nil DG _ 24 _, OwnT.nil DG _ 24 _⟩, rfl⟩, E4⟩
 have hb : 0 ≤ h ∧ h ≤ 4 := by simp at hc0; omega
 refine wp_skip ?_
 refine wp_seq ?_
 obtain ⟨n, rfl⟩ : ∃ n : Nat, h = (n : Int) := ⟨(h).toNat, by omega⟩
 have hn4 : n ≤ 4 := by omega
 have hp16 := pw_small hn4
 refine Rl [] [(20, Pr.ex (Dg.val (seed))), (21, Pr.ex (i64 (n : Int))), (22, Pr.own' DG wd2.heap.size 24 (publics seed (pw n))), (10, Pr.own' DG wd2.heap.size 24 (publics seed (pw n)))] 4 N2 D2 ?_ ?_
 refine Ac ?_ (Ac ?_ (Ac ?_ (Ac ?_ (Az _))))
 exact Ap fun aq wq _ hO hR hT => does_loadD (o := 0) (n := 4) (mid := [w32 (seed).a, w32 (seed).b, w32 (seed).c, w32 (seed).d]) (oT hO s4_2 rfl) (B4_2.ext' hR) rfl rfl (nB rfl) row_24 rfl eR
 exact Am s1_2 rfl fun _ => rfl
 exact Ap fun aq wq _ hO hR hT => does_ret (vs := #[Dg.val (seed), i64 (n : Int)]) call_46 (args2 (hT 20 rfl rfl) (hT 21 rfl rfl)) rfl ((keysR seed n wq hn4).mono fun v w2 h => ⟨h.2, OwnT.base h.1 hR.size'⟩)
 exact Ap fun aq wq _ hO hR hT => does_assign rfl ⟨Ext.refl _, (hT 22 rfl rfl)⟩
 intro a6 wd6 N6 D6 hO hR hA hU
 obtain ⟨_, _, _, t10, _⟩ := hA
 have E6 := E2.trans hR
 have s2_6 := oT hO s2_2 rfl
 have s4_6 := oT hO s4_2 rfl
 have s7_6 := oT hO s7_2 rfl
 have s8_6 := oT hO s8_2 rfl
 have B4_6 := B4_2.ext' hR
 have B7_6 := B7_2.ext' hR
 have B8_6 := B8_2.ext' hR
 obtain ⟨x10, s10_6⟩ : ∃ x, get a6 10 = x := ⟨_, rfl⟩
 replace t10 : OwnT DG wd2.heap.size 24 (publics seed (pw n)) x10 wd6 := by rw [← s10_6]; exact t10
 have nbo_x10_b4 := Ob1 t10 B4_2
 have nbo_x10_b7 := Ob1 t10 B7_2
 have nbo_x10_b8 := Ob1 t10 B8_2
 have X10_6 := t10.sl.wide (Nat.zero_le _) (.inl rfl)
 have O10_6 := OwnT.base t10 E2.size'
 clear E2 N2 D2 s1_2 s2_2 s4_2 s7_2 s8_2 s18_2 B4_2 B7_2 B8_2
 refine tail_nil ?_
 refine wp_seq ?_
 refine wp_seq ?_
 refine Rl [] [(23, Pr.ex (i64 (i))), (24, Pr.ex (Value.bool (decide (i < ((0 : Nat) : Int))))), (25, Pr.ex (Value.bool (decide (i < ((0 : Nat) : Int))))), (26, Pr.ifb (!(decide (i < ((0 : Nat) : Int)))) (Pr.ex (i64 (i)))), (27, Pr.ifb (!(decide (i < ((0 : Nat) : Int)))) (Pr.ex (x10))), (28, Pr.ifb (!(decide (i < ((0 : Nat) : Int)))) (Pr.ex (i64 (((publics seed (pw n)).length : Nat) : Int)))), (29, Pr.ifb (!(decide (i < ((0 : Nat) : Int)))) (Pr.ex (Value.bool (decide ((((publics seed (pw n)).length : Nat) : Int) ≤ i))))), (30, Pr.ex (Value.bool ((decide (i < ((0 : Nat) : Int))) || (decide ((((publics seed (pw n)).length : Nat) : Int) ≤ i)))))] 8 N6 D6 ?_ ?_
 refine Ac ?_ (Ac ?_ (Ac ?_ (Ac ?_ (Ac ?_ (Ac ?_ (Ac ?_ (Ac ?_ (Az _))))))))
 exact Am s2_6 rfl fun _ => rfl
 exact Ap fun aq wq _ hO hR hT => does_lss (a := i) (b := ((0 : Nat) : Int)) (hT 23 rfl rfl) rfl eR
 exact Ap fun aq wq _ hO hR hT => does_move (V := Value.bool (decide (i < ((0 : Nat) : Int)))) (hT 24 rfl rfl) eR
 refine Ask.guarded (B := decide (i < ((0 : Nat) : Int))) (want := false) (t := 25) rfl rfl rfl rfl (by decide) (fun aq wq hO hR hT => hT 25 rfl rfl) (fun hG aq wq hNq hO hR hT => ?_) (fun hno _ => fun hc => absurd (bn hc) hno)
 replace hG := nb hG
 exact does_move (V := i64 (i)) (oT hO s2_6 rfl) ⟨Ext.refl _, fun _ => rfl⟩
 refine Ask.guarded (B := decide (i < ((0 : Nat) : Int))) (want := false) (t := 25) rfl rfl rfl rfl (by decide) (fun aq wq hO hR hT => hT 25 rfl rfl) (fun hG aq wq hNq hO hR hT => ?_) (fun hno _ => fun hc => absurd (bn hc) hno)
 replace hG := nb hG
 exact does_move (V := x10) (oT hO s10_6 rfl) ⟨Ext.refl _, fun _ => rfl⟩
 refine Ask.guarded (B := decide (i < ((0 : Nat) : Int))) (want := false) (t := 25) rfl rfl rfl rfl (by decide) (fun aq wq hO hR hT => hT 25 rfl rfl) (fun hG aq wq hNq hO hR hT => ?_) (fun hno _ => fun hc => absurd (bn hc) hno)
 replace hG := nb hG
 exact does_len (T := DG) (xs := publics seed (pw n)) sli_27 (SlT.at (hT 27 rfl rfl hG) (X10_6.ext' hR)) ⟨Ext.refl _, fun _ => rfl⟩
 refine Ask.guarded (B := decide (i < ((0 : Nat) : Int))) (want := false) (t := 25) rfl rfl rfl rfl (by decide) (fun aq wq hO hR hT => hT 25 rfl rfl) (fun hG aq wq hNq hO hR hT => ?_) (fun hno _ => fun hc => absurd (bn hc) hno)
 replace hG := nb hG
 exact does_geq (a := i) (b := (((publics seed (pw n)).length : Nat) : Int)) (hT 26 rfl rfl hG) (hT 28 rfl rfl hG) ⟨Ext.refl _, fun _ => rfl⟩
 exact Ap fun aq wq _ hO hR hT => does_or (B := decide (i < ((0 : Nat) : Int))) (X := decide ((((publics seed (pw n)).length : Nat) : Int) ≤ i)) (hT 25 rfl rfl) rfl (fun hB => (hT 29 rfl rfl (nb hB))) eR
 intro a7 wd7 N7 D7 hO hR hA hU
 obtain ⟨_, _, _, _, _, _, _, t30, _⟩ := hA
 have E7 := E6.trans hR
 have s2_7 := oT hO s2_6 rfl
 have s4_7 := oT hO s4_6 rfl
 have s7_7 := oT hO s7_6 rfl
 have s8_7 := oT hO s8_6 rfl
 have s10_7 := oT hO s10_6 rfl
 have B4_7 := B4_6.ext' hR
 have B7_7 := B7_6.ext' hR
 have B8_7 := B8_6.ext' hR
 have X10_7 := X10_6.ext' hR
 have O10_7 := O10_6.ext' hR
 have s30_7 : get a7 30 = Value.bool ((decide (i < ((0 : Nat) : Int))) || (decide ((((publics seed (pw n)).length : Nat) : Int) ≤ i))) := t30
 clear E6 N6 D6 s2_6 s4_6 s7_6 s8_6 s10_6 B4_6 B7_6 B8_6 X10_6 O10_6
 refine tail_nil ?_
 refine wp_if (B := (decide (i < ((0 : Nat) : Int))) || (decide ((((publics seed (pw n)).length : Nat) : Int) ≤ i))) s30_7 (fun hc1 => ?_) (fun hc1 => ?_)
 have hbi : ¬ (0 ≤ i ∧ i < ((pw n : Nat) : Int)) := by rw [publics_length] at hc1; simp at hc1; omega
 refine wp_seq ?_
 refine Rl [] [(31, Pr.ex (Value.agg #[i64 ((0 : Nat) : Int), Value.slice none 0 0, Value.slice none 0 0]))] 1 N7 D7 ?_ ?_
 refine Ac ?_ (Az _)
 exact Ap fun aq wq _ hO hR hT => does_build (vs := #[]) (V := Value.agg #[i64 ((0 : Nat) : Int), Value.slice none 0 0, Value.slice none 0 0]) parts0 (by kernel_rfl) eR
 intro a8 wd8 N8 D8 hO hR hA hU
 obtain ⟨t31, _⟩ := hA
 have E8 := E7.trans hR
 have s8_8 := oT hO s8_7 rfl
 have B4_8 := B4_7.ext' hR
 have B7_8 := B7_7.ext' hR
 have B8_8 := B8_7.ext' hR
 have X10_8 := X10_7.ext' hR
 have O10_8 := O10_7.ext' hR
 have s31_8 : get a8 31 = Value.agg #[i64 ((0 : Nat) : Int), Value.slice none 0 0, Value.slice none 0 0] := t31
 clear E7 N7 D7 s2_7 s4_7 s7_7 s8_7 s10_7 s30_7 B4_7 B7_7 B8_7 X10_7 O10_7
 refine tail_none rfl rfl (does_storeD (o := 0) (n := 3) (cs' := [i64 ((0 : Nat) : Int), Value.slice none 0 0, Value.slice none 0 0]) (V := Value.agg #[i64 ((0 : Nat) : Int), Value.slice none 0 0, Value.slice none 0 0]) s8_8 s31_8 B8_8 (nB rfl) rfl siz_30 rfl rfl (fun wd9 hX hz B8_9 => ?_))
 have E9 := E8.since hX (fun k e => e ▸ fr_b8)
 have B4_9 := B4_8.ext hX ne_b4_b8
 have B7_9 := B7_8.ext hX ne_b7_b8
 have X10_9 := SlT.over X10_8 hX (fun _ => nbo_x10_b8)
 have O10_9 := OwnT.ext O10_8 hX (fun k hk e => nbo_x10_b8 (e ▸ hk))
 clear hX hz E8 B4_8 B7_8 B8_8 X10_8 O10_8
 refine tail_put rfl rfl N8 D8 (by decide) (does_assign (V := i64 ((1 : Nat) : Int)) rfl (fun a10 N10 D10 hv hO => ?_))
 have s9_10 := hv
 have s8_10 := oT hO s8_8 rfl
 clear hO hv N8 D8 s8_8 s31_8
 refine tail_nil ?_
 refine wp_ret ?_
 refine res_two (V1 := Value.agg #[i64 ((0 : Nat) : Int), Value.slice none 0 0, Value.slice none 0 0]) (V2 := i64 ((1 : Nat) : Int)) rfl D10 (ResIs.cell s8_10 B8_9 row_30 rfl rfl) s9_10 ?_
 rw [keySign_arg hn4 hbi]
 exact ⟨⟨_, _, rfl, ⟨_, _, rfl, OwnT.nil DG _ 24 _, OwnT.nil DG _ 24 _⟩, rfl⟩, E9⟩
 have hbi : 0 ≤ i ∧ i < ((pw n : Nat) : Int) := by rw [publics_length] at hc1; simp at hc1; omega
 refine wp_skip ?_
 refine wp_seq ?_
 obtain ⟨j, rfl⟩ : ∃ n : Nat, i = (n : Int) := ⟨(i).toNat, by omega⟩
 have hj : j < pw n := by omega
 refine Rl [] [(33, Pr.ex (x10)), (34, Pr.ex (i64 (j : Int))), (35, Pr.t2 (Pr.own' DG wd7.heap.size 24 ((prove (publics seed (pw n)) ((j : Int))).1)) (Pr.ex (i64 (((prove (publics seed (pw n)) ((j : Int))).2 : Nat) : Int)))), (32, Pr.t2 (Pr.own' DG wd7.heap.size 24 ((prove (publics seed (pw n)) ((j : Int))).1)) (Pr.ex (i64 (((prove (publics seed (pw n)) ((j : Int))).2 : Nat) : Int)))), (36, Pr.own' DG wd7.heap.size 24 ((prove (publics seed (pw n)) ((j : Int))).1)), (37, Pr.ex (i64 (((prove (publics seed (pw n)) ((j : Int))).2 : Nat) : Int))), (11, Pr.own' DG wd7.heap.size 24 ((prove (publics seed (pw n)) ((j : Int))).1)), (12, Pr.ex (i64 (((prove (publics seed (pw n)) ((j : Int))).2 : Nat) : Int)))] 8 N7 D7 ?_ ?_
 refine Ac ?_ (Ac ?_ (Ac ?_ (Ac ?_ (Ac ?_ (Ac ?_ (Ac ?_ (Ac ?_ (Az _))))))))
 exact Am s10_7 rfl fun _ => rfl
 exact Am s2_7 rfl fun _ => rfl
 exact Ap fun aq wq _ hO hR hT => does_ret (vs := #[x10, i64 (j : Int)]) call_47 (args2 (hT 33 rfl rfl) (hT 34 rfl rfl)) rfl ((proveR (publics seed (pw n)) ((j : Int)) (x10) wq ((X10_7.ext' hR).wide (Nat.zero_le _) (.inl rfl)) (by rw [publics_length]; omega)).mono fun v w2 h => ⟨h.2, by obtain ⟨x0, x1, hv, k0, k1⟩ := h.1; exact ⟨x0, x1, hv, OwnT.base k0 hR.size', k1⟩⟩)
 exact Ap fun aq wq _ hO hR hT => does_move rfl ⟨Ext.refl _, (hT 35 rfl rfl)⟩
 exact Ap fun aq wq _ hO hR hT => by
  obtain ⟨x0, x1, hv, k0, k1⟩ := (hT 32 rfl rfl)
  exact does_extract hv rfl ⟨Ext.refl _, k0⟩
 exact Ap fun aq wq _ hO hR hT => by
  obtain ⟨x0, x1, hv, k0, k1⟩ := (hT 32 rfl rfl)
  exact does_extract (V := i64 (((prove (publics seed (pw n)) ((j : Int))).2 : Nat) : Int)) hv (by rw [show x1 = i64 (((prove (publics seed (pw n)) ((j : Int))).2 : Nat) : Int) from k1]; rfl) ⟨Ext.refl _, rfl⟩
 exact Ap fun aq wq _ hO hR hT => does_assign rfl ⟨Ext.refl _, (hT 36 rfl rfl)⟩
 exact Ap fun aq wq _ hO hR hT => does_assign (V := i64 (((prove (publics seed (pw n)) ((j : Int))).2 : Nat) : Int)) (hT 37 rfl rfl) eR
 intro a11 wd11 N11 D11 hO hR hA hU
 obtain ⟨_, _, _, _, _, _, t11, _, _⟩ := hA
 have E11 := E7.trans hR
 have s2_11 := oT hO s2_7 rfl
 have s4_11 := oT hO s4_7 rfl
 have s7_11 := oT hO s7_7 rfl
 have s8_11 := oT hO s8_7 rfl
 have B4_11 := B4_7.ext' hR
 have B7_11 := B7_7.ext' hR
 have B8_11 := B8_7.ext' hR
 have X10_11 := X10_7.ext' hR
 have O10_11 := O10_7.ext' hR
 obtain ⟨x11, s11_11⟩ : ∃ x, get a11 11 = x := ⟨_, rfl⟩
 replace t11 : OwnT DG wd7.heap.size 24 ((prove (publics seed (pw n)) ((j : Int))).1) x11 wd11 := by rw [← s11_11]; exact t11
 have nbo_x11_b4 := Ob1 t11 B4_7
 have nbo_x11_b7 := Ob1 t11 B7_7
 have nbo_x11_b8 := Ob1 t11 B8_7
 have no_x11_x10 := Oo t11 O10_7
 have X11_11 := t11.sl.wide (Nat.zero_le _) (.inl rfl)
 have O11_11 := OwnT.base t11 E7.size'
 clear E7 N7 D7 s2_7 s4_7 s7_7 s8_7 s10_7 s30_7 B4_7 B7_7 B8_7 X10_7 O10_7
 refine tail_nil ?_
 refine wp_seq ?_
 refine Ra [] [(38, Pr.ex (i64 (j : Int))), (39, Pr.ex (Dg.val (seed))), (40, Pr.ex (i64 (j : Int))), (41, Pr.ex (Dg.val (seedAt seed j))), (42, Pr.ex (Dg.val (msg))), (43, Pr.own' DG wd11.heap.size 24 (signed (seedAt seed j) msg)), (44, Pr.ex (x11)), (45, Pr.ag (fun x => Value.agg #[i64 (j : Int), x, x11]) (Pr.own' DG wd11.heap.size 24 (signed (seedAt seed j) msg)))] 8 mixed N11 D11 ?_ ?_
 refine Ac ?_ (Ac ?_ (Ac ?_ (Ac ?_ (Ac ?_ (Ac ?_ (Ac ?_ (Ac ?_ (Az _))))))))
 exact Am s2_11 rfl fun _ => rfl
 exact Ad fun aq wq _ hO hR hT => does_loadD (o := 0) (n := 4) (mid := [w32 (seed).a, w32 (seed).b, w32 (seed).c, w32 (seed).d]) (oT hO s4_11 rfl) (B4_11.ext' hR) rfl rfl (nB rfl) row_24 rfl eR
 exact Am s2_11 rfl fun _ => rfl
 exact Ad fun aq wq _ hO hR hT => does_ret (vs := #[Dg.val (seed), i64 (j : Int)]) call_49 (args2 (hT 39 rfl rfl) (hT 40 rfl rfl)) rfl ((seedR seed j wq).mono fun v w2 h => ⟨h.2, h.1⟩)
 exact Ad fun aq wq _ hO hR hT => does_loadD (o := 0) (n := 4) (mid := [w32 (msg).a, w32 (msg).b, w32 (msg).c, w32 (msg).d]) (oT hO s7_11 rfl) (B7_11.ext' hR) rfl rfl (nB rfl) row_24 rfl eR
 exact Ad fun aq wq _ hO hR hT => does_ret (vs := #[Dg.val (seedAt seed j), Dg.val (msg)]) call_48 (args2 (hT 41 rfl rfl) (hT 42 rfl rfl)) rfl ((signR (seedAt seed j) msg wq).mono fun v w2 h => ⟨h.2, OwnT.base h.1 hR.size'⟩)
 exact Am s11_11 rfl fun _ => rfl
 exact Ad fun aq wq _ hO hR hT => does_build (vs := #[(0, i64 (j : Int)), (1, get aq 43), (2, x11)]) (V := Value.agg #[i64 (j : Int), get aq 43, x11]) (parts3 (hT 38 rfl rfl) rfl (hT 44 rfl rfl)) (by obtain ⟨sa1, sc1, hv1, _⟩ := (OwnT.sl (hT 43 rfl rfl)); rw [hv1]; obtain ⟨sa2, sc2, hv2, _⟩ := (X11_11.ext' hR); rw [hv2]; kernel_rfl) ⟨Ext.refl _, ⟨get aq 43, rfl, (hT 43 rfl rfl)⟩⟩
 intro a12 wd12 N12 D12 hO hR hA hU
 obtain ⟨_, _, _, _, _, _, _, t45, _⟩ := hA
 have E12 := E11.trans hR
 have s8_12 := oT hO s8_11 rfl
 have B4_12 := B4_11.ext' hR
 have B7_12 := B7_11.ext' hR
 have B8_12 := B8_11.ext' hR
 have X10_12 := X10_11.ext' hR
 have X11_12 := X11_11.ext' hR
 have O10_12 := O10_11.ext' hR
 have O11_12 := O11_11.ext' hR
 obtain ⟨x45_0_12, s45_12, ky45_0_12⟩ := t45
 replace ky45_0_12 : OwnT DG wd11.heap.size 24 (signed (seedAt seed j) msg) x45_0_12 wd12 := ky45_0_12
 have nbo_x45_0_12_b4 := Ob1 ky45_0_12 B4_11
 have nbo_x45_0_12_b7 := Ob1 ky45_0_12 B7_11
 have nbo_x45_0_12_b8 := Ob1 ky45_0_12 B8_11
 have no_x45_0_12_x10 := Oo ky45_0_12 O10_11
 have no_x45_0_12_x11 := Oo ky45_0_12 O11_11
 have X45_0_12_12 := ky45_0_12.sl.wide (Nat.zero_le _) (.inl rfl)
 have O45_0_12_12 := OwnT.base ky45_0_12 E11.size'
 clear E11 N11 D11 s2_11 s4_11 s7_11 s8_11 s11_11 B4_11 B7_11 B8_11 X10_11 X11_11 O10_11 O11_11
 refine tail_none rfl rfl (does_storeD (o := 0) (n := 3) (cs' := [i64 (j : Int), x45_0_12, x11]) (V := Value.agg #[i64 (j : Int), x45_0_12, x11]) s8_12 s45_12 B8_12 (nB rfl) rfl siz_30 (one_cons rfl (one_cons (SlT.one X45_0_12_12) (one_cons (SlT.one X11_12) one_nil))) rfl (fun wd13 hX hz B8_13 => ?_))
 have E13 := E12.since hX (fun k e => e ▸ fr_b8)
 have B4_13 := B4_12.ext hX ne_b4_b8
 have B7_13 := B7_12.ext hX ne_b7_b8
 have X10_13 := SlT.over X10_12 hX (fun _ => nbo_x10_b8)
 have X11_13 := SlT.over X11_12 hX (fun _ => nbo_x11_b8)
 have X45_0_12_13 := SlT.over X45_0_12_12 hX (fun _ => nbo_x45_0_12_b8)
 have O10_13 := OwnT.ext O10_12 hX (fun k hk e => nbo_x10_b8 (e ▸ hk))
 have O11_13 := OwnT.ext O11_12 hX (fun k hk e => nbo_x11_b8 (e ▸ hk))
 have O45_0_12_13 := OwnT.ext O45_0_12_12 hX (fun k hk e => nbo_x45_0_12_b8 (e ▸ hk))
 clear hX hz E12 B4_12 B7_12 B8_12 X10_12 X11_12 X45_0_12_12 O10_12 O11_12 O45_0_12_12
 refine tail_put rfl rfl N12 D12 (by decide) (does_assign (V := i64 ((0 : Nat) : Int)) rfl (fun a14 N14 D14 hv hO => ?_))
 have s9_14 := hv
 have s8_14 := oT hO s8_12 rfl
 clear hO hv N12 D12 s8_12 s45_12
 refine tail_nil ?_
 refine wp_ret ?_
 refine res_two (V1 := Value.agg #[i64 (j : Int), x45_0_12, x11]) (V2 := i64 ((0 : Nat) : Int)) rfl D14 (ResIs.cell s8_14 B8_13 row_30 rfl rfl) s9_14 ?_
 have ho1 := O45_0_12_13
 have ho2 := O11_13
 rw [prove_pub hj] at ho2
 rw [keySign_ok hn4 hj]
 exact ⟨⟨_, _, rfl, ⟨_, _, rfl, ho1, ho2⟩, rfl⟩, E13⟩

theorem keySignR_k (seed : Dg) (n j : Nat) (msg : Dg) (w0 : World) (hn : n ≤ 4) (hj : j < pw n) : Gives Tryd.prog 29 #[Dg.val seed, i64 (n : Int), i64 (j : Int), Dg.val msg] w0 (Pr.t2 (Pr.ag2 (fun x y => Value.agg #[i64 (j : Int), x, y]) (Pr.own' DG w0.heap.size 24 (signed (seedAt seed j) msg)) (Pr.own' DG w0.heap.size 24 (way (publics seed (pw n)) j))) (Pr.ex (i64 ((0 : Nat) : Int)))) := by
  have h := keySignR seed n j msg w0
  rw [keySign_ok hn hj] at h
  exact h

end Go.Proofs.YtmmghpbncejfiaaDoor
