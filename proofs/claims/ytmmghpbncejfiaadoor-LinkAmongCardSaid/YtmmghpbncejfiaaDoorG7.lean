/- The walks of functions of the program: printed. -/
import Derived.Test.YtmmghpbncejfiaaDoorG3
import Derived.Test.YtmmghpbncejfiaaDoorG6
import Derived.Test.YtmmghpbncejfiaaDoorF0
set_option maxRecDepth 100000
namespace Go.Proofs.YtmmghpbncejfiaaDoor
open Go Go.RowKit Sk Sd
theorem half_ (n : Nat) (w0 : World) (h0 : 2 ≤ n) (h1 : n ≤ 4611686018427387903) :
    Gives Tryd.prog 50 #[i64 (n : Int)] w0 (Pr.ex (i64 ((half n : Nat) : Int))) := by
 refine enter (N := 11) Tryd.func50 rfl rfl ?_
 intro a0 N0 D0 hA
 have s0_0 : get a0 0 = i64 (n : Int) := hA 0 _ rfl
 clear hA
 have E0 : Ext w0 w0 := Ext.refl w0
 refine wp_seq ?_
 refine Rl [] [(2, Pr.ex (i64 ((0 : Nat) : Int)))] 1 N0 D0 ?_ ?_
 refine Ac ?_ (Az _)
 exact Ap fun aq wq _ hO hR hT => does_assign (V := i64 ((0 : Nat) : Int)) rfl eR
 intro a1 wd1 N1 D1 hO hR hA hU
 obtain ⟨_, _⟩ := hA
 have E1 := E0.trans hR
 have s0_1 := oT hO s0_0 rfl
 clear E0 N0 D0 s0_0
 refine tail_nil ?_
 refine wp_seq ?_
 refine Rl [] [(3, Pr.ex (i64 ((1 : Nat) : Int)))] 1 N1 D1 ?_ ?_
 refine Ac ?_ (Az _)
 exact Ap fun aq wq _ hO hR hT => does_assign (V := i64 ((1 : Nat) : Int)) rfl eR
 intro a2 wd2 N2 D2 hO hR hA hU
 obtain ⟨t3, _⟩ := hA
 have E2 := E1.trans hR
 have s0_2 := oT hO s0_1 rfl
 have s3_2 : get a2 3 = i64 ((1 : Nat) : Int) := t3
 clear E1 N1 D1 s0_1
 refine tail_nil ?_
 refine wp_seq ?_
 refine wp_block ?_
 refine loop_g (fun mz az wz => ∃ k : Nat, ∃ j : Nat, mz = n - k ∧ (az.tmps.size = 11) ∧ (az.defers = []) ∧ (get az 0 = i64 (n : Int)) ∧ (get az 3 = i64 (k : Int)) ∧ (Ext w0 wz) ∧ (k = 2 ^ j) ∧ (k < n)) ?_ ?_
 exact ⟨_, 1, 0, rfl, N2, D2, s0_2, s3_2, E2, rfl, by omega⟩
 rintro mz a3 wd3 ⟨k, j, rfl, N3, D3, s0_3, s3_3, E3, hk, hkn⟩
 refine wp_seq ?_
 refine wp_seq ?_
 refine Rl [] [(4, Pr.ex (i64 (k : Int))), (5, Pr.ex (i64 ((2 * k : Nat) : Int))), (6, Pr.ex (i64 (n : Int))), (7, Pr.ex (Value.bool (decide (((2 * k : Nat) : Int) < (n : Int)))))] 4 N3 D3 ?_ ?_
 refine Ac ?_ (Ac ?_ (Ac ?_ (Ac ?_ (Az _))))
 exact Am s3_3 rfl fun _ => rfl
 exact Ap fun aq wq _ hO hR hT => does_mul (a := ((2 : Nat) : Int)) (b := (k : Int)) (r := ((2 * k : Nat) : Int)) rfl (hT 4 rfl rfl) (by simp) (by omega) (by omega) eR
 exact Am s0_3 rfl fun _ => rfl
 exact Ap fun aq wq _ hO hR hT => does_lss (a := ((2 * k : Nat) : Int)) (b := (n : Int)) (hT 5 rfl rfl) (hT 6 rfl rfl) eR
 intro a4 wd4 N4 D4 hO hR hA hU
 obtain ⟨_, _, _, t7, _⟩ := hA
 have E4 := E3.trans hR
 have s0_4 := oT hO s0_3 rfl
 have s3_4 := oT hO s3_3 rfl
 have s7_4 : get a4 7 = Value.bool (decide (((2 * k : Nat) : Int) < (n : Int))) := t7
 clear E3 N3 D3 s0_3 s3_3
 refine tail_nil ?_
 refine wp_if (B := decide (((2 * k : Nat) : Int) < (n : Int))) s7_4 (fun hc0 => ?_) (fun hc0 => ?_)
 have hc0 := of_decide_eq_true hc0
 refine wp_skip ?_
 refine wp_block ?_
 refine Rl [] [(8, Pr.ex (i64 (k : Int))), (9, Pr.ex (i64 ((k * 2 : Nat) : Int)))] 2 N4 D4 ?_ ?_
 refine Ac ?_ (Ac ?_ (Az _))
 exact Am s3_4 rfl fun _ => rfl
 exact Ap fun aq wq _ hO hR hT => does_mul (a := (k : Int)) (b := ((2 : Nat) : Int)) (r := ((k * 2 : Nat) : Int)) (hT 8 rfl rfl) rfl (by simp) (by omega) (by omega) eR
 intro a5 wd5 N5 D5 hO hR hA hU
 obtain ⟨_, t9, _⟩ := hA
 have E5 := E4.trans hR
 have s0_5 := oT hO s0_4 rfl
 have s3_5 := oT hO s3_4 rfl
 have s9_5 : get a5 9 = i64 ((k * 2 : Nat) : Int) := t9
 clear E4 N4 D4 s0_4 s3_4 s7_4
 refine tail_put rfl rfl N5 D5 (by decide) (does_assign (V := i64 ((k * 2 : Nat) : Int)) s9_5 (fun a6 N6 D6 hv hO => ?_))
 have s3_6 := hv
 have s0_6 := oT hO s0_5 rfl
 clear hO hv N5 D5 s0_5 s9_5 s3_5
 refine tail_nil ?_
 exact ⟨_, by have := Nat.two_pow_pos j; omega, 2 * k, j + 1, rfl, N6, D6, s0_6, (by rw [s3_6]; congr 2; omega), E5, by rw [Nat.pow_succ]; omega, by omega⟩
 have hc0 := of_decide_eq_false hc0
 refine wp_exit ?_
 refine wp_seq ?_
 refine Rl [] [(10, Pr.ex (i64 (k : Int))), (2, Pr.ex (i64 (k : Int)))] 2 N4 D4 ?_ ?_
 refine Ac ?_ (Ac ?_ (Az _))
 exact Am s3_4 rfl fun _ => rfl
 exact Ap fun aq wq _ hO hR hT => does_assign (V := i64 (k : Int)) (hT 10 rfl rfl) eR
 intro a7 wd7 N7 D7 hO hR hA hU
 obtain ⟨_, t2, _⟩ := hA
 have E7 := E4.trans hR
 have s2_7 : get a7 2 = i64 (k : Int) := t2
 clear E4 N4 D4 s0_4 s3_4 s7_4
 refine tail_nil ?_
 refine wp_ret ?_
 refine res_one (V := i64 (k : Int)) rfl D7 s2_7 ?_
 exact ⟨by subst hk; rw [half_eq hkn (by omega)]; rfl, E7⟩

theorem halfR (n : Nat) (w0 : World) (h0 : 2 ≤ n) (h1 : n ≤ 4611686018427387903) :
    Gives Tryd.prog 73 #[i64 (n : Int)] w0 (Pr.ex (i64 ((half n : Nat) : Int))) := by
 refine enter (N := 11) Tryd.func73 rfl rfl ?_
 intro a0 N0 D0 hA
 have s0_0 : get a0 0 = i64 (n : Int) := hA 0 _ rfl
 clear hA
 have E0 : Ext w0 w0 := Ext.refl w0
 refine wp_seq ?_
 refine Rl [] [(2, Pr.ex (i64 ((0 : Nat) : Int)))] 1 N0 D0 ?_ ?_
 refine Ac ?_ (Az _)
 exact Ap fun aq wq _ hO hR hT => does_assign (V := i64 ((0 : Nat) : Int)) rfl eR
 intro a1 wd1 N1 D1 hO hR hA hU
 obtain ⟨_, _⟩ := hA
 have E1 := E0.trans hR
 have s0_1 := oT hO s0_0 rfl
 clear E0 N0 D0 s0_0
 refine tail_nil ?_
 refine wp_seq ?_
 refine Rl [] [(3, Pr.ex (i64 ((1 : Nat) : Int)))] 1 N1 D1 ?_ ?_
 refine Ac ?_ (Az _)
 exact Ap fun aq wq _ hO hR hT => does_assign (V := i64 ((1 : Nat) : Int)) rfl eR
 intro a2 wd2 N2 D2 hO hR hA hU
 obtain ⟨t3, _⟩ := hA
 have E2 := E1.trans hR
 have s0_2 := oT hO s0_1 rfl
 have s3_2 : get a2 3 = i64 ((1 : Nat) : Int) := t3
 clear E1 N1 D1 s0_1
 refine tail_nil ?_
 refine wp_seq ?_
 refine wp_block ?_
 refine loop_g (fun mz az wz => ∃ k : Nat, ∃ j : Nat, mz = n - k ∧ (az.tmps.size = 11) ∧ (az.defers = []) ∧ (get az 0 = i64 (n : Int)) ∧ (get az 3 = i64 (k : Int)) ∧ (Ext w0 wz) ∧ (k = 2 ^ j) ∧ (k < n)) ?_ ?_
 exact ⟨_, 1, 0, rfl, N2, D2, s0_2, s3_2, E2, rfl, by omega⟩
 rintro mz a3 wd3 ⟨k, j, rfl, N3, D3, s0_3, s3_3, E3, hk, hkn⟩
 refine wp_seq ?_
 refine wp_seq ?_
 refine Rl [] [(4, Pr.ex (i64 (k : Int))), (5, Pr.ex (i64 ((2 * k : Nat) : Int))), (6, Pr.ex (i64 (n : Int))), (7, Pr.ex (Value.bool (decide (((2 * k : Nat) : Int) < (n : Int)))))] 4 N3 D3 ?_ ?_
 refine Ac ?_ (Ac ?_ (Ac ?_ (Ac ?_ (Az _))))
 exact Am s3_3 rfl fun _ => rfl
 exact Ap fun aq wq _ hO hR hT => does_mul (a := ((2 : Nat) : Int)) (b := (k : Int)) (r := ((2 * k : Nat) : Int)) rfl (hT 4 rfl rfl) (by simp) (by omega) (by omega) eR
 exact Am s0_3 rfl fun _ => rfl
 exact Ap fun aq wq _ hO hR hT => does_lss (a := ((2 * k : Nat) : Int)) (b := (n : Int)) (hT 5 rfl rfl) (hT 6 rfl rfl) eR
 intro a4 wd4 N4 D4 hO hR hA hU
 obtain ⟨_, _, _, t7, _⟩ := hA
 have E4 := E3.trans hR
 have s0_4 := oT hO s0_3 rfl
 have s3_4 := oT hO s3_3 rfl
 have s7_4 : get a4 7 = Value.bool (decide (((2 * k : Nat) : Int) < (n : Int))) := t7
 clear E3 N3 D3 s0_3 s3_3
 refine tail_nil ?_
 refine wp_if (B := decide (((2 * k : Nat) : Int) < (n : Int))) s7_4 (fun hc0 => ?_) (fun hc0 => ?_)
 have hc0 := of_decide_eq_true hc0
 refine wp_skip ?_
 refine wp_block ?_
 refine Rl [] [(8, Pr.ex (i64 (k : Int))), (9, Pr.ex (i64 ((2 * k : Nat) : Int)))] 2 N4 D4 ?_ ?_
 refine Ac ?_ (Ac ?_ (Az _))
 exact Am s3_4 rfl fun _ => rfl
 exact Ap fun aq wq _ hO hR hT => does_mul (a := ((2 : Nat) : Int)) (b := (k : Int)) (r := ((2 * k : Nat) : Int)) rfl (hT 8 rfl rfl) (by simp) (by omega) (by omega) eR
 intro a5 wd5 N5 D5 hO hR hA hU
 obtain ⟨_, t9, _⟩ := hA
 have E5 := E4.trans hR
 have s0_5 := oT hO s0_4 rfl
 have s3_5 := oT hO s3_4 rfl
 have s9_5 : get a5 9 = i64 ((2 * k : Nat) : Int) := t9
 clear E4 N4 D4 s0_4 s3_4 s7_4
 refine tail_put rfl rfl N5 D5 (by decide) (does_assign (V := i64 ((2 * k : Nat) : Int)) s9_5 (fun a6 N6 D6 hv hO => ?_))
 have s3_6 := hv
 have s0_6 := oT hO s0_5 rfl
 clear hO hv N5 D5 s0_5 s9_5 s3_5
 refine tail_nil ?_
 exact ⟨_, by have := Nat.two_pow_pos j; omega, 2 * k, j + 1, rfl, N6, D6, s0_6, s3_6, E5, by rw [Nat.pow_succ]; omega, by omega⟩
 have hc0 := of_decide_eq_false hc0
 refine wp_exit ?_
 refine wp_seq ?_
 refine Rl [] [(10, Pr.ex (i64 (k : Int))), (2, Pr.ex (i64 (k : Int)))] 2 N4 D4 ?_ ?_
 refine Ac ?_ (Ac ?_ (Az _))
 exact Am s3_4 rfl fun _ => rfl
 exact Ap fun aq wq _ hO hR hT => does_assign (V := i64 (k : Int)) (hT 10 rfl rfl) eR
 intro a7 wd7 N7 D7 hO hR hA hU
 obtain ⟨_, t2, _⟩ := hA
 have E7 := E4.trans hR
 have s2_7 : get a7 2 = i64 (k : Int) := t2
 clear E4 N4 D4 s0_4 s3_4 s7_4
 refine tail_nil ?_
 refine wp_ret ?_
 refine res_one (V := i64 (k : Int)) rfl D7 s2_7 ?_
 exact ⟨by subst hk; rw [half_eq hkn (by omega)]; rfl, E7⟩

theorem root__r : ∀ (N : Nat) (l : List Dg) (x1 : Value) (w0 : World) (hL : Laid w0) (hx1 : SlT DG 0 0 l x1 w0) (hn : l.length ≤ 100000) (hN : l.length = N),
    Gives Tryd.prog 31 #[x1] w0 (Pr.ex (Dg.val (root l))) := by
 intro N
 induction N using Nat.strongRecOn with
 | _ N ih =>
  intro l x1 w0 hL hx1 hn hN
  refine enter (N := 26) Tryd.func31 rfl rfl ?_
  intro a0 N0 D0 hA
  have s0_0 : get a0 0 = x1 := hA 0 _ rfl
  clear hA
  have E0 : Ext w0 w0 := Ext.refl w0
  have X1_0 := hx1.close
  refine wp_seq ?_
  refine Rl [2] [(2, Pr.box' w0.heap.size 24 [w32 (Dg.zero).a, w32 (Dg.zero).b, w32 (Dg.zero).c, w32 (Dg.zero).d])] 1 N0 D0 ?_ ?_
  refine Ac ?_ (Az _)
  refine Ask.fresh rfl rfl ?_
  intro aq wq hNq hO hR hT
  exact does_alloc zero_24 (fun b w2 he hlo hb => ⟨he, ⟨b, rfl, Nat.le_trans hR.size' hlo, hb⟩, ⟨b, rfl, hlo, hb.lt⟩⟩)
  intro a1 wd1 N1 D1 hO hR hA hU
  obtain ⟨t2, _⟩ := hA
  have E1 := E0.trans hR
  have s0_1 := oT hO s0_0 rfl
  have X1_1 := X1_0.ext' hR
  obtain ⟨b2, s2_1, lo_b2, B2_1⟩ := t2
  have nb_x1_b2 := SlT.old X1_0 lo_b2
  have fr_b2 : w0.heap.size ≤ b2 := Nat.le_trans E0.size' lo_b2
  clear E0 N0 D0 s0_0 X1_0
  refine tail_nil ?_
  refine wp_seq ?_
  refine wp_seq ?_
  refine Rl [] [(4, Pr.ex (x1)), (5, Pr.ex (i64 (l.length : Int)))] 2 N1 D1 ?_ ?_
  refine Ac ?_ (Ac ?_ (Az _))
  exact Am s0_1 rfl fun _ => rfl
  exact Ap fun aq wq _ hO hR hT => does_len (T := DG) (xs := l) sli_27 (SlT.at (hT 4 rfl rfl) (X1_1.ext' hR)) eR
  intro a2 wd2 N2 D2 hO hR hA hU
  obtain ⟨_, t5, _⟩ := hA
  have E2 := E1.trans hR
  have s0_2 := oT hO s0_1 rfl
  have s2_2 := oT hO s2_1 rfl
  have B2_2 := B2_1.ext' hR
  have X1_2 := X1_1.ext' hR
  have s5_2 : get a2 5 = i64 (l.length : Int) := t5
  clear E1 N1 D1 s0_1 s2_1 B2_1 X1_1
  refine tail_nil ?_
  refine wp_block ?_
  refine wp_seq ?_
  refine Rl [] [(7, Pr.ex (Value.bool (decide ((l.length : Int) = ((0 : Nat) : Int))))), (6, Pr.ex (Value.bool (decide ((l.length : Int) = ((0 : Nat) : Int)))))] 2 N2 D2 ?_ ?_
  refine Ac ?_ (Ac ?_ (Az _))
  exact Ap fun aq wq _ hO hR hT => does_eql (a := (l.length : Int)) (b := ((0 : Nat) : Int)) (oT hO s5_2 rfl) rfl eR
  exact Ap fun aq wq _ hO hR hT => does_assign (V := Value.bool (decide ((l.length : Int) = ((0 : Nat) : Int)))) (hT 7 rfl rfl) eR
  intro a3 wd3 N3 D3 hO hR hA hU
  obtain ⟨_, t6, _⟩ := hA
  have E3 := E2.trans hR
  have s0_3 := oT hO s0_2 rfl
  have s2_3 := oT hO s2_2 rfl
  have s5_3 := oT hO s5_2 rfl
  have B2_3 := B2_2.ext' hR
  have X1_3 := X1_2.ext' hR
  have s6_3 : get a3 6 = Value.bool (decide ((l.length : Int) = ((0 : Nat) : Int))) := t6
  clear E2 N2 D2 s0_2 s2_2 s5_2 B2_2 X1_2
  refine tail_nil ?_
  refine wp_if (B := decide ((l.length : Int) = ((0 : Nat) : Int))) s6_3 (fun hc0 => ?_) (fun hc0 => ?_)
  have hc0 := of_decide_eq_true hc0
  have hl0 : l = [] := List.length_eq_zero_iff.1 (by omega)
  refine wp_seq ?_
  refine Rl [] [(8, Pr.ex (Dg.val (of (([] : List UInt8)))))] 1 N3 D3 ?_ ?_
  refine Ac ?_ (Az _)
  exact Ap fun aq wq _ hO hR hT => does_ret (vs := #[str (([] : List UInt8))]) call_22 (args1 rfl) rfl ((of_ (([] : List UInt8)) wq (hL.ext (E3.trans hR)) (by first | assumption | decide | omega)).mono fun v w2 h => ⟨h.2, h.1⟩)
  intro a4 wd4 N4 D4 hO hR hA hU
  obtain ⟨t8, _⟩ := hA
  have E4 := E3.trans hR
  have s2_4 := oT hO s2_3 rfl
  have B2_4 := B2_3.ext' hR
  have X1_4 := X1_3.ext' hR
  have s8_4 : get a4 8 = Dg.val (of (([] : List UInt8))) := t8
  clear E3 N3 D3 s0_3 s2_3 s5_3 s6_3 B2_3 X1_3
  refine tail_none rfl rfl (does_storeD (o := 0) (n := 4) (cs' := [w32 (of (([] : List UInt8))).a, w32 (of (([] : List UInt8))).b, w32 (of (([] : List UInt8))).c, w32 (of (([] : List UInt8))).d]) (V := Dg.val (of (([] : List UInt8)))) s2_4 s8_4 B2_4 (nB rfl) rfl siz_24 rfl rfl (fun wd5 hX hz B2_5 => ?_))
  have E5 := E4.since hX (fun k e => e ▸ fr_b2)
  have X1_5 := SlT.over X1_4 hX nb_x1_b2
  clear hX hz E4 B2_4 X1_4
  refine tail_nil ?_
  refine wp_ret ?_
  refine res_one (V := Dg.val (of (([] : List UInt8)))) rfl D4 (ResIs.cell s2_4 B2_5 row_24 rfl rfl) ?_
  exact ⟨by show Dg.val _ = Dg.val _; rw [hl0, root_nil], E5⟩
  have hc0 := of_decide_eq_false hc0
  refine wp_seq ?_
  refine Rl [] [(10, Pr.ex (Value.bool (decide ((l.length : Int) = ((1 : Nat) : Int))))), (9, Pr.ex (Value.bool (decide ((l.length : Int) = ((1 : Nat) : Int)))))] 2 N3 D3 ?_ ?_
  refine Ac ?_ (Ac ?_ (Az _))
  exact Ap fun aq wq _ hO hR hT => does_eql (a := (l.length : Int)) (b := ((1 : Nat) : Int)) (oT hO s5_3 rfl) rfl eR
  exact Ap fun aq wq _ hO hR hT => does_assign (V := Value.bool (decide ((l.length : Int) = ((1 : Nat) : Int)))) (hT 10 rfl rfl) eR
  intro a6 wd6 N6 D6 hO hR hA hU
  obtain ⟨_, t9, _⟩ := hA
  have E6 := E3.trans hR
  have s0_6 := oT hO s0_3 rfl
  have s2_6 := oT hO s2_3 rfl
  have B2_6 := B2_3.ext' hR
  have X1_6 := X1_3.ext' hR
  have s9_6 : get a6 9 = Value.bool (decide ((l.length : Int) = ((1 : Nat) : Int))) := t9
  clear E3 N3 D3 s0_3 s2_3 s5_3 s6_3 B2_3 X1_3
  refine tail_nil ?_
  refine wp_if (B := decide ((l.length : Int) = ((1 : Nat) : Int))) s9_6 (fun hc1 => ?_) (fun hc1 => ?_)
  have hc1 := of_decide_eq_true hc1
  obtain ⟨x, hl1⟩ := one_of (l := l) (by omega)
  refine wp_seq ?_
  refine Rl [] [(11, Pr.ex (x1)), (12, Pr.pt' 0 (w0.heap.size + 1) [w32 (x).a, w32 (x).b, w32 (x).c, w32 (x).d]), (13, Pr.ex (Dg.val (x)))] 3 N6 D6 ?_ ?_
  refine Ac ?_ (Ac ?_ (Ac ?_ (Az _)))
  exact Am s0_6 rfl fun _ => rfl
  exact Ap fun aq wq _ hO hR hT => does_indexSl (T := DG) (xs := l) (i := ((0 : Nat) : Int)) (X := x) sli_27 rfl (SlT.at (hT 11 rfl rfl) (X1_6.ext' hR)) rfl (by omega) (by subst hl1; rfl) (fun v h => ⟨Ext.refl _, h⟩)
  exact Ap fun aq wq _ hO hR hT => does_loadP (cs := [w32 (x).a, w32 (x).b, w32 (x).c, w32 (x).d]) (hT 12 rfl rfl) row_24 rfl eR
  intro a7 wd7 N7 D7 hO hR hA hU
  obtain ⟨_, _, t13, _⟩ := hA
  have E7 := E6.trans hR
  have s2_7 := oT hO s2_6 rfl
  have B2_7 := B2_6.ext' hR
  have X1_7 := X1_6.ext' hR
  have s13_7 : get a7 13 = Dg.val (x) := t13
  clear E6 N6 D6 s0_6 s2_6 s9_6 B2_6 X1_6
  refine tail_none rfl rfl (does_storeD (o := 0) (n := 4) (cs' := [w32 (x).a, w32 (x).b, w32 (x).c, w32 (x).d]) (V := Dg.val (x)) s2_7 s13_7 B2_7 (nB rfl) rfl siz_24 rfl rfl (fun wd8 hX hz B2_8 => ?_))
  have E8 := E7.since hX (fun k e => e ▸ fr_b2)
  have X1_8 := SlT.over X1_7 hX nb_x1_b2
  clear hX hz E7 B2_7 X1_7
  refine tail_nil ?_
  refine wp_ret ?_
  refine res_one (V := Dg.val (x)) rfl D7 (ResIs.cell s2_7 B2_8 row_24 rfl rfl) ?_
  exact ⟨by show Dg.val _ = Dg.val _; rw [hl1, root_one], E8⟩
  have hc1 := of_decide_eq_false hc1
  have h2 : 2 ≤ l.length := by omega
  have hh := half_lt h2
  have hp := half_pos l.length
  refine wp_skip ?_
  refine wp_seq ?_
  refine Rl [] [(14, Pr.ex (x1)), (15, Pr.ex (i64 (l.length : Int))), (16, Pr.ex (i64 ((half l.length : Nat) : Int))), (3, Pr.ex (i64 ((half l.length : Nat) : Int)))] 4 N6 D6 ?_ ?_
  refine Ac ?_ (Ac ?_ (Ac ?_ (Ac ?_ (Az _))))
  exact Am s0_6 rfl fun _ => rfl
  exact Ap fun aq wq _ hO hR hT => does_len (T := DG) (xs := l) sli_27 (SlT.at (hT 14 rfl rfl) (X1_6.ext' hR)) eR
  exact Ap fun aq wq _ hO hR hT => does_ret (vs := #[i64 (l.length : Int)]) call_50 (args1 (hT 15 rfl rfl)) rfl ((half_ (l.length) wq (by omega) (by omega)).mono fun v w2 h => ⟨h.2, h.1⟩)
  exact Ap fun aq wq _ hO hR hT => does_assign (V := i64 ((half l.length : Nat) : Int)) (hT 16 rfl rfl) eR
  intro a9 wd9 N9 D9 hO hR hA hU
  obtain ⟨_, _, _, t3, _⟩ := hA
  have E9 := E6.trans hR
  have s0_9 := oT hO s0_6 rfl
  have s2_9 := oT hO s2_6 rfl
  have B2_9 := B2_6.ext' hR
  have X1_9 := X1_6.ext' hR
  have s3_9 : get a9 3 = i64 ((half l.length : Nat) : Int) := t3
  clear E6 N6 D6 s0_6 s2_6 s9_6 B2_6 X1_6
  refine tail_nil ?_
  refine wp_seq ?_
  refine Ra [] [(17, Pr.ex (x1)), (18, Pr.ex (i64 ((half l.length : Nat) : Int))), (19, Pr.sl' DG 0 (w0.heap.size + 1) (l.take (half l.length))), (20, Pr.ex (Dg.val (root (l.take (half l.length))))), (21, Pr.ex (x1)), (22, Pr.ex (i64 ((half l.length : Nat) : Int))), (23, Pr.sl' DG 0 (w0.heap.size + 1) (l.drop (half l.length))), (24, Pr.ex (Dg.val (root (l.drop (half l.length))))), (25, Pr.ex (Dg.val (pair (root (l.take (half l.length))) (root (l.drop (half l.length))))))] 9 mixed N9 D9 ?_ ?_
  refine Ac ?_ (Ac ?_ (Ac ?_ (Ac ?_ (Ac ?_ (Ac ?_ (Ac ?_ (Ac ?_ (Ac ?_ (Az _)))))))))
  exact Am s0_9 rfl fun _ => rfl
  exact Am s3_9 rfl fun _ => rfl
  exact Ad fun aq wq _ hO hR hT => does_sliceHi (T := DG) (xs := l) (k := ((half l.length : Nat) : Int)) sli_27 rfl (SlT.at (hT 17 rfl rfl) (X1_9.ext' hR)) (hT 18 rfl rfl) (by omega) (by omega) (fun v h => ⟨Ext.refl _, h⟩)
  exact Ad fun aq wq _ hO hR hT => does_ret (vs := #[get aq 19]) call_31 (args1 rfl) rfl ((ih _ (by simp only [List.length_take, List.length_drop]; omega) (l.take (half l.length)) (get aq 19) wq (hL.ext (E9.trans hR)) ((hT 19 rfl rfl).wide (Nat.zero_le _) (.inl rfl)) (by simp only [List.length_take, List.length_drop]; omega) rfl).mono fun v w2 h => ⟨h.2, h.1⟩)
  exact Am s0_9 rfl fun _ => rfl
  exact Am s3_9 rfl fun _ => rfl
  exact Ad fun aq wq _ hO hR hT => does_sliceLo (T := DG) (xs := l) (k := ((half l.length : Nat) : Int)) sli_27 rfl (SlT.at (hT 21 rfl rfl) (X1_9.ext' hR)) (hT 22 rfl rfl) (by omega) (by omega) (fun v h => ⟨Ext.refl _, h⟩)
  exact Ad fun aq wq _ hO hR hT => does_ret (vs := #[get aq 23]) call_31 (args1 rfl) rfl ((ih _ (by simp only [List.length_take, List.length_drop]; omega) (l.drop (half l.length)) (get aq 23) wq (hL.ext (E9.trans hR)) ((hT 23 rfl rfl).wide (Nat.zero_le _) (.inl rfl)) (by simp only [List.length_take, List.length_drop]; omega) rfl).mono fun v w2 h => ⟨h.2, h.1⟩)
  exact Ad fun aq wq _ hO hR hT => does_ret (vs := #[Dg.val (root (l.take (half l.length))), Dg.val (root (l.drop (half l.length)))]) call_21 (args2 (hT 20 rfl rfl) (hT 24 rfl rfl)) rfl ((pair_ (root (l.take (half l.length))) (root (l.drop (half l.length))) wq (hL.ext (E9.trans hR))).mono fun v w2 h => ⟨h.2, h.1⟩)
  intro a10 wd10 N10 D10 hO hR hA hU
  obtain ⟨_, _, _, _, _, _, _, _, t25, _⟩ := hA
  have E10 := E9.trans hR
  have s2_10 := oT hO s2_9 rfl
  have B2_10 := B2_9.ext' hR
  have X1_10 := X1_9.ext' hR
  have s25_10 : get a10 25 = Dg.val (pair (root (l.take (half l.length))) (root (l.drop (half l.length)))) := t25
  clear E9 N9 D9 s0_9 s2_9 s3_9 B2_9 X1_9
  refine tail_none rfl rfl (does_storeD (o := 0) (n := 4) (cs' := [w32 (pair (root (l.take (half l.length))) (root (l.drop (half l.length)))).a, w32 (pair (root (l.take (half l.length))) (root (l.drop (half l.length)))).b, w32 (pair (root (l.take (half l.length))) (root (l.drop (half l.length)))).c, w32 (pair (root (l.take (half l.length))) (root (l.drop (half l.length)))).d]) (V := Dg.val (pair (root (l.take (half l.length))) (root (l.drop (half l.length))))) s2_10 s25_10 B2_10 (nB rfl) rfl siz_24 rfl rfl (fun wd11 hX hz B2_11 => ?_))
  have E11 := E10.since hX (fun k e => e ▸ fr_b2)
  have X1_11 := SlT.over X1_10 hX nb_x1_b2
  clear hX hz E10 B2_10 X1_10
  refine tail_nil ?_
  refine wp_ret ?_
  refine res_one (V := Dg.val (pair (root (l.take (half l.length))) (root (l.drop (half l.length))))) rfl D10 (ResIs.cell s2_10 B2_11 row_24 rfl rfl) ?_
  exact ⟨by show Dg.val _ = Dg.val _; rw [root_two h2], E11⟩
theorem root_ (l : List Dg) (x1 : Value) (w0 : World) (hL : Laid w0) (hx1 : SlT DG 0 0 l x1 w0) (hn : l.length ≤ 100000) :
    Gives Tryd.prog 31 #[x1] w0 (Pr.ex (Dg.val (root l))) := root__r _ l x1 w0 hL hx1 hn rfl

theorem rootR_r : ∀ (N : Nat) (l : List Dg) (x1 : Value) (w0 : World) (hx1 : SlT DG 0 0 l x1 w0) (hn : l.length ≤ 100000) (hN : l.length = N),
    Gives Tryd.prog 45 #[x1] w0 (Pr.ex (Dg.val (root l))) := by
 intro N
 induction N using Nat.strongRecOn with
 | _ N ih =>
  intro l x1 w0 hx1 hn hN
  refine enter (N := 26) Tryd.func45 rfl rfl ?_
  intro a0 N0 D0 hA
  have s0_0 : get a0 0 = x1 := hA 0 _ rfl
  clear hA
  have E0 : Ext w0 w0 := Ext.refl w0
  have X1_0 := hx1.close
  refine wp_seq ?_
  refine Rl [2] [(2, Pr.box' w0.heap.size 24 [w32 (Dg.zero).a, w32 (Dg.zero).b, w32 (Dg.zero).c, w32 (Dg.zero).d])] 1 N0 D0 ?_ ?_
  refine Ac ?_ (Az _)
  refine Ask.fresh rfl rfl ?_
  intro aq wq hNq hO hR hT
  exact does_alloc zero_24 (fun b w2 he hlo hb => ⟨he, ⟨b, rfl, Nat.le_trans hR.size' hlo, hb⟩, ⟨b, rfl, hlo, hb.lt⟩⟩)
  intro a1 wd1 N1 D1 hO hR hA hU
  obtain ⟨t2, _⟩ := hA
  have E1 := E0.trans hR
  have s0_1 := oT hO s0_0 rfl
  have X1_1 := X1_0.ext' hR
  obtain ⟨b2, s2_1, lo_b2, B2_1⟩ := t2
  have nb_x1_b2 := SlT.old X1_0 lo_b2
  have fr_b2 : w0.heap.size ≤ b2 := Nat.le_trans E0.size' lo_b2
  clear E0 N0 D0 s0_0 X1_0
  refine tail_nil ?_
  refine wp_seq ?_
  refine wp_seq ?_
  refine Rl [] [(4, Pr.ex (x1)), (5, Pr.ex (i64 (l.length : Int))), (6, Pr.ex (Value.bool (decide ((l.length : Int) = ((0 : Nat) : Int)))))] 3 N1 D1 ?_ ?_
  refine Ac ?_ (Ac ?_ (Ac ?_ (Az _)))
  exact Am s0_1 rfl fun _ => rfl
  exact Ap fun aq wq _ hO hR hT => does_len (T := DG) (xs := l) sli_27 (SlT.at (hT 4 rfl rfl) (X1_1.ext' hR)) eR
  exact Ap fun aq wq _ hO hR hT => does_eql (a := (l.length : Int)) (b := ((0 : Nat) : Int)) (hT 5 rfl rfl) rfl eR
  intro a2 wd2 N2 D2 hO hR hA hU
  obtain ⟨_, _, t6, _⟩ := hA
  have E2 := E1.trans hR
  have s0_2 := oT hO s0_1 rfl
  have s2_2 := oT hO s2_1 rfl
  have B2_2 := B2_1.ext' hR
  have X1_2 := X1_1.ext' hR
  have s6_2 : get a2 6 = Value.bool (decide ((l.length : Int) = ((0 : Nat) : Int))) := t6
  clear E1 N1 D1 s0_1 s2_1 B2_1 X1_1
  refine tail_nil ?_
  refine wp_if (B := decide ((l.length : Int) = ((0 : Nat) : Int))) s6_2 (fun hc0 => ?_) (fun hc0 => ?_)
  have hc0 := of_decide_eq_true hc0
  have hl0 : l = [] := List.length_eq_zero_iff.1 (by omega)
  refine wp_seq ?_
  refine Rl [] [(7, Pr.ex (Dg.val (of (([] : List UInt8)))))] 1 N2 D2 ?_ ?_
  refine Ac ?_ (Az _)
  exact Ap fun aq wq _ hO hR hT => does_ret (vs := #[str (([] : List UInt8))]) call_24 (args1 rfl) rfl ((ofR (([] : List UInt8)) wq (by first | assumption | decide | omega)).mono fun v w2 h => ⟨h.2, h.1⟩)
  intro a3 wd3 N3 D3 hO hR hA hU
  obtain ⟨t7, _⟩ := hA
  have E3 := E2.trans hR
  have s2_3 := oT hO s2_2 rfl
  have B2_3 := B2_2.ext' hR
  have X1_3 := X1_2.ext' hR
  have s7_3 : get a3 7 = Dg.val (of (([] : List UInt8))) := t7
  clear E2 N2 D2 s0_2 s2_2 s6_2 B2_2 X1_2
  refine tail_none rfl rfl (does_storeD (o := 0) (n := 4) (cs' := [w32 (of (([] : List UInt8))).a, w32 (of (([] : List UInt8))).b, w32 (of (([] : List UInt8))).c, w32 (of (([] : List UInt8))).d]) (V := Dg.val (of (([] : List UInt8)))) s2_3 s7_3 B2_3 (nB rfl) rfl siz_24 rfl rfl (fun wd4 hX hz B2_4 => ?_))
  have E4 := E3.since hX (fun k e => e ▸ fr_b2)
  have X1_4 := SlT.over X1_3 hX nb_x1_b2
  clear hX hz E3 B2_3 X1_3
  refine tail_nil ?_
  refine wp_ret ?_
  refine res_one (V := Dg.val (of (([] : List UInt8)))) rfl D3 (ResIs.cell s2_3 B2_4 row_24 rfl rfl) ?_
  exact ⟨by show Dg.val _ = Dg.val _; rw [hl0, root_nil], E4⟩
  have hc0 := of_decide_eq_false hc0
  refine wp_skip ?_
  refine wp_seq ?_
  refine wp_seq ?_
  refine Rl [] [(8, Pr.ex (x1)), (9, Pr.ex (i64 (l.length : Int))), (10, Pr.ex (Value.bool (decide ((l.length : Int) = ((1 : Nat) : Int)))))] 3 N2 D2 ?_ ?_
  refine Ac ?_ (Ac ?_ (Ac ?_ (Az _)))
  exact Am s0_2 rfl fun _ => rfl
  exact Ap fun aq wq _ hO hR hT => does_len (T := DG) (xs := l) sli_27 (SlT.at (hT 8 rfl rfl) (X1_2.ext' hR)) eR
  exact Ap fun aq wq _ hO hR hT => does_eql (a := (l.length : Int)) (b := ((1 : Nat) : Int)) (hT 9 rfl rfl) rfl eR
  intro a5 wd5 N5 D5 hO hR hA hU
  obtain ⟨_, _, t10, _⟩ := hA
  have E5 := E2.trans hR
  have s0_5 := oT hO s0_2 rfl
  have s2_5 := oT hO s2_2 rfl
  have B2_5 := B2_2.ext' hR
  have X1_5 := X1_2.ext' hR
  have s10_5 : get a5 10 = Value.bool (decide ((l.length : Int) = ((1 : Nat) : Int))) := t10
  clear E2 N2 D2 s0_2 s2_2 s6_2 B2_2 X1_2
  refine tail_nil ?_
  refine wp_if (B := decide ((l.length : Int) = ((1 : Nat) : Int))) s10_5 (fun hc1 => ?_) (fun hc1 => ?_)
  have hc1 := of_decide_eq_true hc1
  obtain ⟨x, hl1⟩ := one_of (l := l) (by omega)
  refine wp_seq ?_
  refine Rl [] [(11, Pr.ex (x1)), (12, Pr.pt' 0 (w0.heap.size + 1) [w32 (x).a, w32 (x).b, w32 (x).c, w32 (x).d]), (13, Pr.ex (Dg.val (x)))] 3 N5 D5 ?_ ?_
  refine Ac ?_ (Ac ?_ (Ac ?_ (Az _)))
  exact Am s0_5 rfl fun _ => rfl
  exact Ap fun aq wq _ hO hR hT => does_indexSl (T := DG) (xs := l) (i := ((0 : Nat) : Int)) (X := x) sli_27 rfl (SlT.at (hT 11 rfl rfl) (X1_5.ext' hR)) rfl (by omega) (by subst hl1; rfl) (fun v h => ⟨Ext.refl _, h⟩)
  exact Ap fun aq wq _ hO hR hT => does_loadP (cs := [w32 (x).a, w32 (x).b, w32 (x).c, w32 (x).d]) (hT 12 rfl rfl) row_24 rfl eR
  intro a6 wd6 N6 D6 hO hR hA hU
  obtain ⟨_, _, t13, _⟩ := hA
  have E6 := E5.trans hR
  have s2_6 := oT hO s2_5 rfl
  have B2_6 := B2_5.ext' hR
  have X1_6 := X1_5.ext' hR
  have s13_6 : get a6 13 = Dg.val (x) := t13
  clear E5 N5 D5 s0_5 s2_5 s10_5 B2_5 X1_5
  refine tail_none rfl rfl (does_storeD (o := 0) (n := 4) (cs' := [w32 (x).a, w32 (x).b, w32 (x).c, w32 (x).d]) (V := Dg.val (x)) s2_6 s13_6 B2_6 (nB rfl) rfl siz_24 rfl rfl (fun wd7 hX hz B2_7 => ?_))
  have E7 := E6.since hX (fun k e => e ▸ fr_b2)
  have X1_7 := SlT.over X1_6 hX nb_x1_b2
  clear hX hz E6 B2_6 X1_6
  refine tail_nil ?_
  refine wp_ret ?_
  refine res_one (V := Dg.val (x)) rfl D6 (ResIs.cell s2_6 B2_7 row_24 rfl rfl) ?_
  exact ⟨by show Dg.val _ = Dg.val _; rw [hl1, root_one], E7⟩
  have hc1 := of_decide_eq_false hc1
  have h2 : 2 ≤ l.length := by omega
  have hh := half_lt h2
  have hp := half_pos l.length
  refine wp_skip ?_
  refine wp_seq ?_
  refine Rl [] [(14, Pr.ex (x1)), (15, Pr.ex (i64 (l.length : Int))), (16, Pr.ex (i64 ((half l.length : Nat) : Int))), (3, Pr.ex (i64 ((half l.length : Nat) : Int)))] 4 N5 D5 ?_ ?_
  refine Ac ?_ (Ac ?_ (Ac ?_ (Ac ?_ (Az _))))
  exact Am s0_5 rfl fun _ => rfl
  exact Ap fun aq wq _ hO hR hT => does_len (T := DG) (xs := l) sli_27 (SlT.at (hT 14 rfl rfl) (X1_5.ext' hR)) eR
  exact Ap fun aq wq _ hO hR hT => does_ret (vs := #[i64 (l.length : Int)]) call_73 (args1 (hT 15 rfl rfl)) rfl ((halfR (l.length) wq (by omega) (by omega)).mono fun v w2 h => ⟨h.2, h.1⟩)
  exact Ap fun aq wq _ hO hR hT => does_assign (V := i64 ((half l.length : Nat) : Int)) (hT 16 rfl rfl) eR
  intro a8 wd8 N8 D8 hO hR hA hU
  obtain ⟨_, _, _, t3, _⟩ := hA
  have E8 := E5.trans hR
  have s0_8 := oT hO s0_5 rfl
  have s2_8 := oT hO s2_5 rfl
  have B2_8 := B2_5.ext' hR
  have X1_8 := X1_5.ext' hR
  have s3_8 : get a8 3 = i64 ((half l.length : Nat) : Int) := t3
  clear E5 N5 D5 s0_5 s2_5 s10_5 B2_5 X1_5
  refine tail_nil ?_
  refine wp_seq ?_
  refine Ra [] [(17, Pr.ex (x1)), (18, Pr.ex (i64 ((half l.length : Nat) : Int))), (19, Pr.sl' DG 0 (w0.heap.size + 1) (l.take (half l.length))), (20, Pr.ex (Dg.val (root (l.take (half l.length))))), (21, Pr.ex (x1)), (22, Pr.ex (i64 ((half l.length : Nat) : Int))), (23, Pr.sl' DG 0 (w0.heap.size + 1) (l.drop (half l.length))), (24, Pr.ex (Dg.val (root (l.drop (half l.length))))), (25, Pr.ex (Dg.val (pair (root (l.take (half l.length))) (root (l.drop (half l.length))))))] 9 mixed N8 D8 ?_ ?_
  refine Ac ?_ (Ac ?_ (Ac ?_ (Ac ?_ (Ac ?_ (Ac ?_ (Ac ?_ (Ac ?_ (Ac ?_ (Az _)))))))))
  exact Am s0_8 rfl fun _ => rfl
  exact Am s3_8 rfl fun _ => rfl
  exact Ad fun aq wq _ hO hR hT => does_sliceHi (T := DG) (xs := l) (k := ((half l.length : Nat) : Int)) sli_27 rfl (SlT.at (hT 17 rfl rfl) (X1_8.ext' hR)) (hT 18 rfl rfl) (by omega) (by omega) (fun v h => ⟨Ext.refl _, h⟩)
  exact Ad fun aq wq _ hO hR hT => does_ret (vs := #[get aq 19]) call_45 (args1 rfl) rfl ((ih _ (by simp only [List.length_take, List.length_drop]; omega) (l.take (half l.length)) (get aq 19) wq ((hT 19 rfl rfl).wide (Nat.zero_le _) (.inl rfl)) (by simp only [List.length_take, List.length_drop]; omega) rfl).mono fun v w2 h => ⟨h.2, h.1⟩)
  exact Am s0_8 rfl fun _ => rfl
  exact Am s3_8 rfl fun _ => rfl
  exact Ad fun aq wq _ hO hR hT => does_sliceLo (T := DG) (xs := l) (k := ((half l.length : Nat) : Int)) sli_27 rfl (SlT.at (hT 21 rfl rfl) (X1_8.ext' hR)) (hT 22 rfl rfl) (by omega) (by omega) (fun v h => ⟨Ext.refl _, h⟩)
  exact Ad fun aq wq _ hO hR hT => does_ret (vs := #[get aq 23]) call_45 (args1 rfl) rfl ((ih _ (by simp only [List.length_take, List.length_drop]; omega) (l.drop (half l.length)) (get aq 23) wq ((hT 23 rfl rfl).wide (Nat.zero_le _) (.inl rfl)) (by simp only [List.length_take, List.length_drop]; omega) rfl).mono fun v w2 h => ⟨h.2, h.1⟩)
  exact Ad fun aq wq _ hO hR hT => does_ret (vs := #[Dg.val (root (l.take (half l.length))), Dg.val (root (l.drop (half l.length)))]) call_23 (args2 (hT 20 rfl rfl) (hT 24 rfl rfl)) rfl ((pairR (root (l.take (half l.length))) (root (l.drop (half l.length))) wq).mono fun v w2 h => ⟨h.2, h.1⟩)
  intro a9 wd9 N9 D9 hO hR hA hU
  obtain ⟨_, _, _, _, _, _, _, _, t25, _⟩ := hA
  have E9 := E8.trans hR
  have s2_9 := oT hO s2_8 rfl
  have B2_9 := B2_8.ext' hR
  have X1_9 := X1_8.ext' hR
  have s25_9 : get a9 25 = Dg.val (pair (root (l.take (half l.length))) (root (l.drop (half l.length)))) := t25
  clear E8 N8 D8 s0_8 s2_8 s3_8 B2_8 X1_8
  refine tail_none rfl rfl (does_storeD (o := 0) (n := 4) (cs' := [w32 (pair (root (l.take (half l.length))) (root (l.drop (half l.length)))).a, w32 (pair (root (l.take (half l.length))) (root (l.drop (half l.length)))).b, w32 (pair (root (l.take (half l.length))) (root (l.drop (half l.length)))).c, w32 (pair (root (l.take (half l.length))) (root (l.drop (half l.length)))).d]) (V := Dg.val (pair (root (l.take (half l.length))) (root (l.drop (half l.length))))) s2_9 s25_9 B2_9 (nB rfl) rfl siz_24 rfl rfl (fun wd10 hX hz B2_10 => ?_))
  have E10 := E9.since hX (fun k e => e ▸ fr_b2)
  have X1_10 := SlT.over X1_9 hX nb_x1_b2
  clear hX hz E9 B2_9 X1_9
  refine tail_nil ?_
  refine wp_ret ?_
  refine res_one (V := Dg.val (pair (root (l.take (half l.length))) (root (l.drop (half l.length))))) rfl D9 (ResIs.cell s2_9 B2_10 row_24 rfl rfl) ?_
  exact ⟨by show Dg.val _ = Dg.val _; rw [root_two h2], E10⟩
theorem rootR (l : List Dg) (x1 : Value) (w0 : World) (hx1 : SlT DG 0 0 l x1 w0) (hn : l.length ≤ 100000) :
    Gives Tryd.prog 45 #[x1] w0 (Pr.ex (Dg.val (root l))) := rootR_r _ l x1 w0 hx1 hn rfl

end Go.Proofs.YtmmghpbncejfiaaDoor
