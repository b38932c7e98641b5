/- The walks of functions of the program: printed. -/
import Derived.Test.YtaeohnkfmachfabDoorG3
import Derived.Test.YtaeohnkfmachfabDoorG6
import Derived.Test.YtaeohnkfmachfabDoorF0
set_option maxRecDepth 100000
namespace Go.Proofs.YtaeohnkfmachfabDoor
open Go Go.RowKit Sk Sd
theorem half_ (n : Nat) (w0 : World) (h0 : 2 ≤ n) (h1 : n ≤ 4611686018427387903) :
    Gives Tryd.prog 45 #[i64 ((n : Nat) : Int)] w0 (Pr.ex (i64 ((half n : Nat) : Int))) := by
 refine enter (N := 11) Tryd.func45 rfl rfl ?_
 intro a0 hN_0 hD_0 hA
 have s0_0 : get a0 0 = i64 ((n : Nat) : Int) := hA 0 _ rfl
 clear hA
 have hE_0 : Ext w0 w0 := Ext.refl w0
 refine wp_seq ?_
 refine region_lex [] [(2, Pr.ex (i64 ((0 : Nat) : Int)))] 1 hN_0 hD_0 (by kernel_rfl) (by kernel_rfl) ?_ ?_
 refine Asks.cons ?_ (Asks.zero _)
 exact Ask.plain rfl rfl fun aq wq hNq hO hR hT => does_assign (V := i64 ((0 : Nat) : Int)) rfl ⟨Ext.refl _, rfl⟩
 intro a1 wd1 hN_1 hD_1 hO hR hA hU
 obtain ⟨_, _⟩ := hA
 have hE_1 := hE_0.trans hR
 have s0_1 := (hO 0 rfl).trans s0_0
 clear hE_0 hN_0 hD_0 s0_0
 refine tail_nil ?_
 refine wp_seq ?_
 refine region_lex [] [(3, Pr.ex (i64 ((1 : Nat) : Int)))] 1 hN_1 hD_1 (by kernel_rfl) (by kernel_rfl) ?_ ?_
 refine Asks.cons ?_ (Asks.zero _)
 exact Ask.plain rfl rfl fun aq wq hNq hO hR hT => does_assign (V := i64 ((1 : Nat) : Int)) rfl ⟨Ext.refl _, rfl⟩
 intro a2 wd2 hN_2 hD_2 hO hR hA hU
 obtain ⟨t3, _⟩ := hA
 have hE_2 := hE_1.trans hR
 have s0_2 := (hO 0 rfl).trans s0_1
 have s3_2 : get a2 3 = i64 ((1 : Nat) : Int) := t3
 clear hE_1 hN_1 hD_1 s0_1
 refine tail_nil ?_
 refine wp_seq ?_
 refine wp_block ?_
 refine loop_g (fun mz az wz => ∃ k : Nat, ∃ j : Nat, mz = n - k ∧ (az.tmps.size = 11) ∧ (az.defers = []) ∧ (get az 0 = i64 ((n : Nat) : Int)) ∧ (get az 3 = i64 ((k : Nat) : Int)) ∧ (Ext w0 wz) ∧ (k = 2 ^ j) ∧ (k < n)) ?_ ?_
 exact ⟨_, 1, 0, rfl, hN_2, hD_2, s0_2, s3_2, hE_2, rfl, by omega⟩
 rintro mz a3 wd3 ⟨k, j, rfl, hN_3, hD_3, s0_3, s3_3, hE_3, hk, hkn⟩
 refine wp_seq ?_
 refine wp_seq ?_
 refine region_lex [] [(4, Pr.ex (i64 ((k : Nat) : Int))), (5, Pr.ex (i64 ((2 * k : Nat) : Int))), (6, Pr.ex (i64 ((n : Nat) : Int))), (7, Pr.ex (Value.bool (decide (((2 * k : Nat) : Int) < ((n : Nat) : Int)))))] 4 hN_3 hD_3 (by kernel_rfl) (by kernel_rfl) ?_ ?_
 refine Asks.cons ?_ (Asks.cons ?_ (Asks.cons ?_ (Asks.cons ?_ (Asks.zero _))))
 exact Ask.plain rfl rfl fun aq wq hNq hO hR hT => does_move (V := i64 ((k : Nat) : Int)) ((hO 3 rfl).trans s3_3) ⟨Ext.refl _, rfl⟩
 exact Ask.plain rfl rfl fun aq wq hNq hO hR hT => does_mul (a := ((2 : Nat) : Int)) (b := ((k : Nat) : Int)) (r := ((2 * k : Nat) : Int)) rfl (hT 4 rfl rfl) (by simp) (by omega) (by omega) ⟨Ext.refl _, rfl⟩
 exact Ask.plain rfl rfl fun aq wq hNq hO hR hT => does_move (V := i64 ((n : Nat) : Int)) ((hO 0 rfl).trans s0_3) ⟨Ext.refl _, rfl⟩
 exact Ask.plain rfl rfl fun aq wq hNq hO hR hT => does_lss (a := ((2 * k : Nat) : Int)) (b := ((n : Nat) : Int)) (hT 5 rfl rfl) (hT 6 rfl rfl) ⟨Ext.refl _, rfl⟩
 intro a4 wd4 hN_4 hD_4 hO hR hA hU
 obtain ⟨_, _, _, t7, _⟩ := hA
 have hE_4 := hE_3.trans hR
 have s0_4 := (hO 0 rfl).trans s0_3
 have s3_4 := (hO 3 rfl).trans s3_3
 have s7_4 : get a4 7 = Value.bool (decide (((2 * k : Nat) : Int) < ((n : Nat) : Int))) := t7
 clear hE_3 hN_3 hD_3 s0_3 s3_3
 refine tail_nil ?_
 refine wp_if (B := decide (((2 * k : Nat) : Int) < ((n : Nat) : Int))) s7_4 (fun hc0 => ?_) (fun hc0 => ?_)
 have hc0 := of_decide_eq_true hc0
 refine wp_skip ?_
 refine wp_block ?_
 refine region_lex [] [(8, Pr.ex (i64 ((k : Nat) : Int))), (9, Pr.ex (i64 ((k * 2 : Nat) : Int)))] 2 hN_4 hD_4 (by kernel_rfl) (by kernel_rfl) ?_ ?_
 refine Asks.cons ?_ (Asks.cons ?_ (Asks.zero _))
 exact Ask.plain rfl rfl fun aq wq hNq hO hR hT => does_move (V := i64 ((k : Nat) : Int)) ((hO 3 rfl).trans s3_4) ⟨Ext.refl _, rfl⟩
 exact Ask.plain rfl rfl fun aq wq hNq hO hR hT => does_mul (a := ((k : Nat) : Int)) (b := ((2 : Nat) : Int)) (r := ((k * 2 : Nat) : Int)) (hT 8 rfl rfl) rfl (by simp) (by omega) (by omega) ⟨Ext.refl _, rfl⟩
 intro a5 wd5 hN_5 hD_5 hO hR hA hU
 obtain ⟨_, t9, _⟩ := hA
 have hE_5 := hE_4.trans hR
 have s0_5 := (hO 0 rfl).trans s0_4
 have s3_5 := (hO 3 rfl).trans s3_4
 have s9_5 : get a5 9 = i64 ((k * 2 : Nat) : Int) := t9
 clear hE_4 hN_4 hD_4 s0_4 s3_4 s7_4
 refine tail_put rfl rfl hN_5 hD_5 (by decide) (does_assign (V := i64 ((k * 2 : Nat) : Int)) s9_5 (fun a6 hN_6 hD_6 hv hO => ?_))
 have s3_6 := hv
 have s0_6 := (hO 0 rfl).trans s0_5
 clear hO hv hN_5 hD_5 s0_5 s9_5 s3_5
 refine tail_nil ?_
 exact ⟨_, by have := Nat.two_pow_pos j; omega, 2 * k, j + 1, rfl, hN_6, hD_6, s0_6, (by rw [s3_6]; congr 2; omega), hE_5, by rw [Nat.pow_succ]; omega, by omega⟩
 have hc0 := of_decide_eq_false hc0
 refine wp_exit ?_
 refine wp_seq ?_
 refine region_lex [] [(10, Pr.ex (i64 ((k : Nat) : Int))), (2, Pr.ex (i64 ((k : Nat) : Int)))] 2 hN_4 hD_4 (by kernel_rfl) (by kernel_rfl) ?_ ?_
 refine Asks.cons ?_ (Asks.cons ?_ (Asks.zero _))
 exact Ask.plain rfl rfl fun aq wq hNq hO hR hT => does_move (V := i64 ((k : Nat) : Int)) ((hO 3 rfl).trans s3_4) ⟨Ext.refl _, rfl⟩
 exact Ask.plain rfl rfl fun aq wq hNq hO hR hT => does_assign (V := i64 ((k : Nat) : Int)) (hT 10 rfl rfl) ⟨Ext.refl _, rfl⟩
 intro a7 wd7 hN_7 hD_7 hO hR hA hU
 obtain ⟨_, t2, _⟩ := hA
 have hE_7 := hE_4.trans hR
 have s2_7 : get a7 2 = i64 ((k : Nat) : Int) := t2
 clear hE_4 hN_4 hD_4 s0_4 s3_4 s7_4
 refine tail_nil ?_
 refine wp_ret ?_
 refine res_one (V := i64 ((k : Nat) : Int)) rfl hD_7 s2_7 ?_
 exact ⟨by subst hk; rw [half_eq hkn (by omega)]; rfl, hE_7⟩

theorem halfR (n : Nat) (w0 : World) (h0 : 2 ≤ n) (h1 : n ≤ 4611686018427387903) :
    Gives Tryd.prog 47 #[i64 ((n : Nat) : Int)] w0 (Pr.ex (i64 ((half n : Nat) : Int))) := by
 refine enter (N := 11) Tryd.func47 rfl rfl ?_
 intro a0 hN_0 hD_0 hA
 have s0_0 : get a0 0 = i64 ((n : Nat) : Int) := hA 0 _ rfl
 clear hA
 have hE_0 : Ext w0 w0 := Ext.refl w0
 refine wp_seq ?_
 refine region_lex [] [(2, Pr.ex (i64 ((0 : Nat) : Int)))] 1 hN_0 hD_0 (by kernel_rfl) (by kernel_rfl) ?_ ?_
 refine Asks.cons ?_ (Asks.zero _)
 exact Ask.plain rfl rfl fun aq wq hNq hO hR hT => does_assign (V := i64 ((0 : Nat) : Int)) rfl ⟨Ext.refl _, rfl⟩
 intro a1 wd1 hN_1 hD_1 hO hR hA hU
 obtain ⟨_, _⟩ := hA
 have hE_1 := hE_0.trans hR
 have s0_1 := (hO 0 rfl).trans s0_0
 clear hE_0 hN_0 hD_0 s0_0
 refine tail_nil ?_
 refine wp_seq ?_
 refine region_lex [] [(3, Pr.ex (i64 ((1 : Nat) : Int)))] 1 hN_1 hD_1 (by kernel_rfl) (by kernel_rfl) ?_ ?_
 refine Asks.cons ?_ (Asks.zero _)
 exact Ask.plain rfl rfl fun aq wq hNq hO hR hT => does_assign (V := i64 ((1 : Nat) : Int)) rfl ⟨Ext.refl _, rfl⟩
 intro a2 wd2 hN_2 hD_2 hO hR hA hU
 obtain ⟨t3, _⟩ := hA
 have hE_2 := hE_1.trans hR
 have s0_2 := (hO 0 rfl).trans s0_1
 have s3_2 : get a2 3 = i64 ((1 : Nat) : Int) := t3
 clear hE_1 hN_1 hD_1 s0_1
 refine tail_nil ?_
 refine wp_seq ?_
 refine wp_block ?_
 refine loop_g (fun mz az wz => ∃ k : Nat, ∃ j : Nat, mz = n - k ∧ (az.tmps.size = 11) ∧ (az.defers = []) ∧ (get az 0 = i64 ((n : Nat) : Int)) ∧ (get az 3 = i64 ((k : Nat) : Int)) ∧ (Ext w0 wz) ∧ (k = 2 ^ j) ∧ (k < n)) ?_ ?_
 exact ⟨_, 1, 0, rfl, hN_2, hD_2, s0_2, s3_2, hE_2, rfl, by omega⟩
 rintro mz a3 wd3 ⟨k, j, rfl, hN_3, hD_3, s0_3, s3_3, hE_3, hk, hkn⟩
 refine wp_seq ?_
 refine wp_seq ?_
 refine region_lex [] [(4, Pr.ex (i64 ((k : Nat) : Int))), (5, Pr.ex (i64 ((2 * k : Nat) : Int))), (6, Pr.ex (i64 ((n : Nat) : Int))), (7, Pr.ex (Value.bool (decide (((2 * k : Nat) : Int) < ((n : Nat) : Int)))))] 4 hN_3 hD_3 (by kernel_rfl) (by kernel_rfl) ?_ ?_
 refine Asks.cons ?_ (Asks.cons ?_ (Asks.cons ?_ (Asks.cons ?_ (Asks.zero _))))
 exact Ask.plain rfl rfl fun aq wq hNq hO hR hT => does_move (V := i64 ((k : Nat) : Int)) ((hO 3 rfl).trans s3_3) ⟨Ext.refl _, rfl⟩
 exact Ask.plain rfl rfl fun aq wq hNq hO hR hT => does_mul (a := ((2 : Nat) : Int)) (b := ((k : Nat) : Int)) (r := ((2 * k : Nat) : Int)) rfl (hT 4 rfl rfl) (by simp) (by omega) (by omega) ⟨Ext.refl _, rfl⟩
 exact Ask.plain rfl rfl fun aq wq hNq hO hR hT => does_move (V := i64 ((n : Nat) : Int)) ((hO 0 rfl).trans s0_3) ⟨Ext.refl _, rfl⟩
 exact Ask.plain rfl rfl fun aq wq hNq hO hR hT => does_lss (a := ((2 * k : Nat) : Int)) (b := ((n : Nat) : Int)) (hT 5 rfl rfl) (hT 6 rfl rfl) ⟨Ext.refl _, rfl⟩
 intro a4 wd4 hN_4 hD_4 hO hR hA hU
 obtain ⟨_, _, _, t7, _⟩ := hA
 have hE_4 := hE_3.trans hR
 have s0_4 := (hO 0 rfl).trans s0_3
 have s3_4 := (hO 3 rfl).trans s3_3
 have s7_4 : get a4 7 = Value.bool (decide (((2 * k : Nat) : Int) < ((n : Nat) : Int))) := t7
 clear hE_3 hN_3 hD_3 s0_3 s3_3
 refine tail_nil ?_
 refine wp_if (B := decide (((2 * k : Nat) : Int) < ((n : Nat) : Int))) s7_4 (fun hc0 => ?_) (fun hc0 => ?_)
 have hc0 := of_decide_eq_true hc0
 refine wp_skip ?_
 refine wp_block ?_
 refine region_lex [] [(8, Pr.ex (i64 ((k : Nat) : Int))), (9, Pr.ex (i64 ((2 * k : Nat) : Int)))] 2 hN_4 hD_4 (by kernel_rfl) (by kernel_rfl) ?_ ?_
 refine Asks.cons ?_ (Asks.cons ?_ (Asks.zero _))
 exact Ask.plain rfl rfl fun aq wq hNq hO hR hT => does_move (V := i64 ((k : Nat) : Int)) ((hO 3 rfl).trans s3_4) ⟨Ext.refl _, rfl⟩
 exact Ask.plain rfl rfl fun aq wq hNq hO hR hT => does_mul (a := ((2 : Nat) : Int)) (b := ((k : Nat) : Int)) (r := ((2 * k : Nat) : Int)) rfl (hT 8 rfl rfl) (by simp) (by omega) (by omega) ⟨Ext.refl _, rfl⟩
 intro a5 wd5 hN_5 hD_5 hO hR hA hU
 obtain ⟨_, t9, _⟩ := hA
 have hE_5 := hE_4.trans hR
 have s0_5 := (hO 0 rfl).trans s0_4
 have s3_5 := (hO 3 rfl).trans s3_4
 have s9_5 : get a5 9 = i64 ((2 * k : Nat) : Int) := t9
 clear hE_4 hN_4 hD_4 s0_4 s3_4 s7_4
 refine tail_put rfl rfl hN_5 hD_5 (by decide) (does_assign (V := i64 ((2 * k : Nat) : Int)) s9_5 (fun a6 hN_6 hD_6 hv hO => ?_))
 have s3_6 := hv
 have s0_6 := (hO 0 rfl).trans s0_5
 clear hO hv hN_5 hD_5 s0_5 s9_5 s3_5
 refine tail_nil ?_
 exact ⟨_, by have := Nat.two_pow_pos j; omega, 2 * k, j + 1, rfl, hN_6, hD_6, s0_6, s3_6, hE_5, by rw [Nat.pow_succ]; omega, by omega⟩
 have hc0 := of_decide_eq_false hc0
 refine wp_exit ?_
 refine wp_seq ?_
 refine region_lex [] [(10, Pr.ex (i64 ((k : Nat) : Int))), (2, Pr.ex (i64 ((k : Nat) : Int)))] 2 hN_4 hD_4 (by kernel_rfl) (by kernel_rfl) ?_ ?_
 refine Asks.cons ?_ (Asks.cons ?_ (Asks.zero _))
 exact Ask.plain rfl rfl fun aq wq hNq hO hR hT => does_move (V := i64 ((k : Nat) : Int)) ((hO 3 rfl).trans s3_4) ⟨Ext.refl _, rfl⟩
 exact Ask.plain rfl rfl fun aq wq hNq hO hR hT => does_assign (V := i64 ((k : Nat) : Int)) (hT 10 rfl rfl) ⟨Ext.refl _, rfl⟩
 intro a7 wd7 hN_7 hD_7 hO hR hA hU
 obtain ⟨_, t2, _⟩ := hA
 have hE_7 := hE_4.trans hR
 have s2_7 : get a7 2 = i64 ((k : Nat) : Int) := t2
 clear hE_4 hN_4 hD_4 s0_4 s3_4 s7_4
 refine tail_nil ?_
 refine wp_ret ?_
 refine res_one (V := i64 ((k : Nat) : Int)) rfl hD_7 s2_7 ?_
 exact ⟨by subst hk; rw [half_eq hkn (by omega)]; rfl, hE_7⟩

theorem root__r : ∀ (N : Nat) (l : List Dg) (x1 : Value) (w0 : World) (hL : Laid w0) (hx1 : SlT DG 0 0 l x1 w0) (hn : l.length ≤ 100000) (hN : l.length = N),
    Gives Tryd.prog 23 #[x1] w0 (Pr.ex (Dg.val (root l))) := by
 intro N
 induction N using Nat.strongRecOn with
 | _ N ih =>
  intro l x1 w0 hL hx1 hn hN
  refine enter (N := 26) Tryd.func23 rfl rfl ?_
  intro a0 hN_0 hD_0 hA
  have s0_0 : get a0 0 = x1 := hA 0 _ rfl
  clear hA
  have hE_0 : Ext w0 w0 := Ext.refl w0
  have hsx1_0 := hx1.close
  refine wp_seq ?_
  refine region_lex [2] [(2, Pr.box' w0.heap.size 24 [w32 (Dg.zero).a, w32 (Dg.zero).b, w32 (Dg.zero).c, w32 (Dg.zero).d])] 1 hN_0 hD_0 (by kernel_rfl) (by kernel_rfl) ?_ ?_
  refine Asks.cons ?_ (Asks.zero _)
  refine Ask.fresh rfl rfl ?_
  intro aq wq hNq hO hR hT
  exact does_alloc zero_24 (fun b w2 he hlo hb => ⟨he, ⟨b, rfl, Nat.le_trans hR.size' hlo, hb⟩, ⟨b, rfl, hlo, hb.lt⟩⟩)
  intro a1 wd1 hN_1 hD_1 hO hR hA hU
  obtain ⟨t2, _⟩ := hA
  have hE_1 := hE_0.trans hR
  have s0_1 := (hO 0 rfl).trans s0_0
  have hsx1_1 := hsx1_0.ext' hR
  obtain ⟨b2, s2_1, lo_b2, hbb2_1⟩ := t2
  have nb_x1_b2 := SlT.old hsx1_0 lo_b2
  have fr_b2 : w0.heap.size ≤ b2 := Nat.le_trans hE_0.size' lo_b2
  clear hE_0 hN_0 hD_0 s0_0 hsx1_0
  refine tail_nil ?_
  refine wp_seq ?_
  refine wp_seq ?_
  refine region_lex [] [(4, Pr.ex (x1)), (5, Pr.ex (i64 ((l.length : Nat) : Int)))] 2 hN_1 hD_1 (by kernel_rfl) (by kernel_rfl) ?_ ?_
  refine Asks.cons ?_ (Asks.cons ?_ (Asks.zero _))
  exact Ask.plain rfl rfl fun aq wq hNq hO hR hT => does_move (V := x1) ((hO 0 rfl).trans s0_1) ⟨Ext.refl _, rfl⟩
  exact Ask.plain rfl rfl fun aq wq hNq hO hR hT => does_len (T := DG) (xs := l) sli_34 (SlT.at (hT 4 rfl rfl) (hsx1_1.ext' hR)) ⟨Ext.refl _, rfl⟩
  intro a2 wd2 hN_2 hD_2 hO hR hA hU
  obtain ⟨_, t5, _⟩ := hA
  have hE_2 := hE_1.trans hR
  have s0_2 := (hO 0 rfl).trans s0_1
  have s2_2 := (hO 2 rfl).trans s2_1
  have hbb2_2 := hbb2_1.ext' hR
  have hsx1_2 := hsx1_1.ext' hR
  have s5_2 : get a2 5 = i64 ((l.length : Nat) : Int) := t5
  clear hE_1 hN_1 hD_1 s0_1 s2_1 hbb2_1 hsx1_1
  refine tail_nil ?_
  refine wp_block ?_
  refine wp_seq ?_
  refine region_lex [] [(7, Pr.ex (Value.bool (decide (((l.length : Nat) : Int) = ((0 : Nat) : Int))))), (6, Pr.ex (Value.bool (decide (((l.length : Nat) : Int) = ((0 : Nat) : Int)))))] 2 hN_2 hD_2 (by kernel_rfl) (by kernel_rfl) ?_ ?_
  refine Asks.cons ?_ (Asks.cons ?_ (Asks.zero _))
  exact Ask.plain rfl rfl fun aq wq hNq hO hR hT => does_eql (a := ((l.length : Nat) : Int)) (b := ((0 : Nat) : Int)) ((hO 5 rfl).trans s5_2) rfl ⟨Ext.refl _, rfl⟩
  exact Ask.plain rfl rfl fun aq wq hNq hO hR hT => does_assign (V := Value.bool (decide (((l.length : Nat) : Int) = ((0 : Nat) : Int)))) (hT 7 rfl rfl) ⟨Ext.refl _, rfl⟩
  intro a3 wd3 hN_3 hD_3 hO hR hA hU
  obtain ⟨_, t6, _⟩ := hA
  have hE_3 := hE_2.trans hR
  have s0_3 := (hO 0 rfl).trans s0_2
  have s2_3 := (hO 2 rfl).trans s2_2
  have s5_3 := (hO 5 rfl).trans s5_2
  have hbb2_3 := hbb2_2.ext' hR
  have hsx1_3 := hsx1_2.ext' hR
  have s6_3 : get a3 6 = Value.bool (decide (((l.length : Nat) : Int) = ((0 : Nat) : Int))) := t6
  clear hE_2 hN_2 hD_2 s0_2 s2_2 s5_2 hbb2_2 hsx1_2
  refine tail_nil ?_
  refine wp_if (B := decide (((l.length : Nat) : Int) = ((0 : Nat) : Int))) s6_3 (fun hc0 => ?_) (fun hc0 => ?_)
  have hc0 := of_decide_eq_true hc0
  have hl0 : l = [] := List.length_eq_zero_iff.1 (by omega)
  refine wp_seq ?_
  refine region_lex [] [(8, Pr.ex (Dg.val (of (([] : List UInt8)))))] 1 hN_3 hD_3 (by kernel_rfl) (by kernel_rfl) ?_ ?_
  refine Asks.cons ?_ (Asks.zero _)
  exact Ask.plain rfl rfl fun aq wq hNq hO hR hT => does_ret (vs := #[str (([] : List UInt8))]) call_44 (args1 rfl) rfl ((of_ (([] : List UInt8)) wq (hL.ext (hE_3.trans hR)) (by first | assumption | decide | omega)).mono fun v w2 h => ⟨h.2, h.1⟩)
  intro a4 wd4 hN_4 hD_4 hO hR hA hU
  obtain ⟨t8, _⟩ := hA
  have hE_4 := hE_3.trans hR
  have s2_4 := (hO 2 rfl).trans s2_3
  have hbb2_4 := hbb2_3.ext' hR
  have hsx1_4 := hsx1_3.ext' hR
  have s8_4 : get a4 8 = Dg.val (of (([] : List UInt8))) := t8
  clear hE_3 hN_3 hD_3 s0_3 s2_3 s5_3 s6_3 hbb2_3 hsx1_3
  refine tail_none rfl rfl (does_storeD (o := 0) (n := 4) (cs' := [w32 (of (([] : List UInt8))).a, w32 (of (([] : List UInt8))).b, w32 (of (([] : List UInt8))).c, w32 (of (([] : List UInt8))).d]) (V := Dg.val (of (([] : List UInt8)))) s2_4 s8_4 hbb2_4 (Nat.le_of_ble_eq_true rfl) rfl siz_24 rfl rfl (fun wd5 hX hz hbb2_5 => ?_))
  have hE_5 := hE_4.since hX (fun k e => e ▸ fr_b2)
  have hsx1_5 := SlT.over hsx1_4 hX nb_x1_b2
  clear hX hz hE_4 hbb2_4 hsx1_4
  refine tail_nil ?_
  refine wp_ret ?_
  refine res_one (V := Dg.val (of (([] : List UInt8)))) rfl hD_4 (ResIs.cell s2_4 hbb2_5 row_24 rfl rfl) ?_
  exact ⟨by show Dg.val _ = Dg.val _; rw [hl0, root_nil], hE_5⟩
  have hc0 := of_decide_eq_false hc0
  refine wp_seq ?_
  refine region_lex [] [(10, Pr.ex (Value.bool (decide (((l.length : Nat) : Int) = ((1 : Nat) : Int))))), (9, Pr.ex (Value.bool (decide (((l.length : Nat) : Int) = ((1 : Nat) : Int)))))] 2 hN_3 hD_3 (by kernel_rfl) (by kernel_rfl) ?_ ?_
  refine Asks.cons ?_ (Asks.cons ?_ (Asks.zero _))
  exact Ask.plain rfl rfl fun aq wq hNq hO hR hT => does_eql (a := ((l.length : Nat) : Int)) (b := ((1 : Nat) : Int)) ((hO 5 rfl).trans s5_3) rfl ⟨Ext.refl _, rfl⟩
  exact Ask.plain rfl rfl fun aq wq hNq hO hR hT => does_assign (V := Value.bool (decide (((l.length : Nat) : Int) = ((1 : Nat) : Int)))) (hT 10 rfl rfl) ⟨Ext.refl _, rfl⟩
  intro a6 wd6 hN_6 hD_6 hO hR hA hU
  obtain ⟨_, t9, _⟩ := hA
  have hE_6 := hE_3.trans hR
  have s0_6 := (hO 0 rfl).trans s0_3
  have s2_6 := (hO 2 rfl).trans s2_3
  have hbb2_6 := hbb2_3.ext' hR
  have hsx1_6 := hsx1_3.ext' hR
  have s9_6 : get a6 9 = Value.bool (decide (((l.length : Nat) : Int) = ((1 : Nat) : Int))) := t9
  clear hE_3 hN_3 hD_3 s0_3 s2_3 s5_3 s6_3 hbb2_3 hsx1_3
  refine tail_nil ?_
  refine wp_if (B := decide (((l.length : Nat) : Int) = ((1 : Nat) : Int))) s9_6 (fun hc1 => ?_) (fun hc1 => ?_)
  have hc1 := of_decide_eq_true hc1
  obtain ⟨x, hl1⟩ := one_of (l := l) (by omega)
  refine wp_seq ?_
  refine region_lex [] [(11, Pr.ex (x1)), (12, Pr.pt' 0 (w0.heap.size + 1) [w32 (x).a, w32 (x).b, w32 (x).c, w32 (x).d]), (13, Pr.ex (Dg.val (x)))] 3 hN_6 hD_6 (by kernel_rfl) (by kernel_rfl) ?_ ?_
  refine Asks.cons ?_ (Asks.cons ?_ (Asks.cons ?_ (Asks.zero _)))
  exact Ask.plain rfl rfl fun aq wq hNq hO hR hT => does_move (V := x1) ((hO 0 rfl).trans s0_6) ⟨Ext.refl _, rfl⟩
  exact Ask.plain rfl rfl fun aq wq hNq hO hR hT => does_indexSl (T := DG) (xs := l) (i := ((0 : Nat) : Int)) (X := x) sli_34 rfl (SlT.at (hT 11 rfl rfl) (hsx1_6.ext' hR)) rfl (by omega) (by subst hl1; rfl) (fun v h => ⟨Ext.refl _, h⟩)
  exact Ask.plain rfl rfl fun aq wq hNq hO hR hT => does_loadP (cs := [w32 (x).a, w32 (x).b, w32 (x).c, w32 (x).d]) (hT 12 rfl rfl) row_24 rfl ⟨Ext.refl _, rfl⟩
  intro a7 wd7 hN_7 hD_7 hO hR hA hU
  obtain ⟨_, _, t13, _⟩ := hA
  have hE_7 := hE_6.trans hR
  have s2_7 := (hO 2 rfl).trans s2_6
  have hbb2_7 := hbb2_6.ext' hR
  have hsx1_7 := hsx1_6.ext' hR
  have s13_7 : get a7 13 = Dg.val (x) := t13
  clear hE_6 hN_6 hD_6 s0_6 s2_6 s9_6 hbb2_6 hsx1_6
  refine tail_none rfl rfl (does_storeD (o := 0) (n := 4) (cs' := [w32 (x).a, w32 (x).b, w32 (x).c, w32 (x).d]) (V := Dg.val (x)) s2_7 s13_7 hbb2_7 (Nat.le_of_ble_eq_true rfl) rfl siz_24 rfl rfl (fun wd8 hX hz hbb2_8 => ?_))
  have hE_8 := hE_7.since hX (fun k e => e ▸ fr_b2)
  have hsx1_8 := SlT.over hsx1_7 hX nb_x1_b2
  clear hX hz hE_7 hbb2_7 hsx1_7
  refine tail_nil ?_
  refine wp_ret ?_
  refine res_one (V := Dg.val (x)) rfl hD_7 (ResIs.cell s2_7 hbb2_8 row_24 rfl rfl) ?_
  exact ⟨by show Dg.val _ = Dg.val _; rw [hl1, root_one], hE_8⟩
  have hc1 := of_decide_eq_false hc1
  have h2 : 2 ≤ l.length := by omega
  have hh := half_lt h2
  have hp := half_pos l.length
  refine wp_skip ?_
  refine wp_seq ?_
  refine region_lex [] [(14, Pr.ex (x1)), (15, Pr.ex (i64 ((l.length : Nat) : Int))), (16, Pr.ex (i64 ((half l.length : Nat) : Int))), (3, Pr.ex (i64 ((half l.length : Nat) : Int)))] 4 hN_6 hD_6 (by kernel_rfl) (by kernel_rfl) ?_ ?_
  refine Asks.cons ?_ (Asks.cons ?_ (Asks.cons ?_ (Asks.cons ?_ (Asks.zero _))))
  exact Ask.plain rfl rfl fun aq wq hNq hO hR hT => does_move (V := x1) ((hO 0 rfl).trans s0_6) ⟨Ext.refl _, rfl⟩
  exact Ask.plain rfl rfl fun aq wq hNq hO hR hT => does_len (T := DG) (xs := l) sli_34 (SlT.at (hT 14 rfl rfl) (hsx1_6.ext' hR)) ⟨Ext.refl _, rfl⟩
  exact Ask.plain rfl rfl fun aq wq hNq hO hR hT => does_ret (vs := #[i64 ((l.length : Nat) : Int)]) call_45 (args1 (hT 15 rfl rfl)) rfl ((half_ (l.length) wq (by omega) (by omega)).mono fun v w2 h => ⟨h.2, h.1⟩)
  exact Ask.plain rfl rfl fun aq wq hNq hO hR hT => does_assign (V := i64 ((half l.length : Nat) : Int)) (hT 16 rfl rfl) ⟨Ext.refl _, rfl⟩
  intro a9 wd9 hN_9 hD_9 hO hR hA hU
  obtain ⟨_, _, _, t3, _⟩ := hA
  have hE_9 := hE_6.trans hR
  have s0_9 := (hO 0 rfl).trans s0_6
  have s2_9 := (hO 2 rfl).trans s2_6
  have hbb2_9 := hbb2_6.ext' hR
  have hsx1_9 := hsx1_6.ext' hR
  have s3_9 : get a9 3 = i64 ((half l.length : Nat) : Int) := t3
  clear hE_6 hN_6 hD_6 s0_6 s2_6 s9_6 hbb2_6 hsx1_6
  refine tail_nil ?_
  refine wp_seq ?_
  refine region_any [] [(17, Pr.ex (x1)), (18, Pr.ex (i64 ((half l.length : Nat) : Int))), (19, Pr.sl' DG 0 (w0.heap.size + 1) (l.take (half l.length))), (20, Pr.ex (Dg.val (root (l.take (half l.length))))), (21, Pr.ex (x1)), (22, Pr.ex (i64 ((half l.length : Nat) : Int))), (23, Pr.sl' DG 0 (w0.heap.size + 1) (l.drop (half l.length))), (24, Pr.ex (Dg.val (root (l.drop (half l.length))))), (25, Pr.ex (Dg.val (pair (root (l.take (half l.length))) (root (l.drop (half l.length))))))] 9 mixed hN_9 hD_9 (by kernel_rfl) (by kernel_rfl) (by kernel_rfl) ?_ ?_
  refine Asks.cons ?_ (Asks.cons ?_ (Asks.cons ?_ (Asks.cons ?_ (Asks.cons ?_ (Asks.cons ?_ (Asks.cons ?_ (Asks.cons ?_ (Asks.cons ?_ (Asks.zero _)))))))))
  exact Ask.plainD rfl rfl fun aq wq hNq hO hR hT => does_move (V := x1) ((hO 0 rfl).trans s0_9) ⟨Ext.refl _, rfl⟩
  exact Ask.plainD rfl rfl fun aq wq hNq hO hR hT => does_move (V := i64 ((half l.length : Nat) : Int)) ((hO 3 rfl).trans s3_9) ⟨Ext.refl _, rfl⟩
  exact Ask.plainD rfl rfl fun aq wq hNq hO hR hT => does_sliceHi (T := DG) (xs := l) (k := ((half l.length : Nat) : Int)) sli_34 rfl (SlT.at (hT 17 rfl rfl) (hsx1_9.ext' hR)) (hT 18 rfl rfl) (by omega) (by omega) (fun v h => ⟨Ext.refl _, h⟩)
  exact Ask.plainD rfl rfl fun aq wq hNq hO hR hT => does_ret (vs := #[get aq 19]) call_23 (args1 rfl) rfl ((ih _ (by simp only [List.length_take, List.length_drop]; omega) (l.take (half l.length)) (get aq 19) wq (hL.ext (hE_9.trans hR)) ((hT 19 rfl rfl).wide (Nat.zero_le _) (.inl rfl)) (by simp only [List.length_take, List.length_drop]; omega) rfl).mono fun v w2 h => ⟨h.2, h.1⟩)
  exact Ask.plainD rfl rfl fun aq wq hNq hO hR hT => does_move (V := x1) ((hO 0 rfl).trans s0_9) ⟨Ext.refl _, rfl⟩
  exact Ask.plainD rfl rfl fun aq wq hNq hO hR hT => does_move (V := i64 ((half l.length : Nat) : Int)) ((hO 3 rfl).trans s3_9) ⟨Ext.refl _, rfl⟩
  exact Ask.plainD rfl rfl fun aq wq hNq hO hR hT => does_sliceLo (T := DG) (xs := l) (k := ((half l.length : Nat) : Int)) sli_34 rfl (SlT.at (hT 21 rfl rfl) (hsx1_9.ext' hR)) (hT 22 rfl rfl) (by omega) (by omega) (fun v h => ⟨Ext.refl _, h⟩)
  exact Ask.plainD rfl rfl fun aq wq hNq hO hR hT => does_ret (vs := #[get aq 23]) call_23 (args1 rfl) rfl ((ih _ (by simp only [List.length_take, List.length_drop]; omega) (l.drop (half l.length)) (get aq 23) wq (hL.ext (hE_9.trans hR)) ((hT 23 rfl rfl).wide (Nat.zero_le _) (.inl rfl)) (by simp only [List.length_take, List.length_drop]; omega) rfl).mono fun v w2 h => ⟨h.2, h.1⟩)
  exact Ask.plainD rfl rfl fun aq wq hNq hO hR hT => does_ret (vs := #[Dg.val (root (l.take (half l.length))), Dg.val (root (l.drop (half l.length)))]) call_46 (args2 (hT 20 rfl rfl) (hT 24 rfl rfl)) rfl ((pair_ (root (l.take (half l.length))) (root (l.drop (half l.length))) wq (hL.ext (hE_9.trans hR))).mono fun v w2 h => ⟨h.2, h.1⟩)
  intro a10 wd10 hN_10 hD_10 hO hR hA hU
  obtain ⟨_, _, _, _, _, _, _, _, t25, _⟩ := hA
  have hE_10 := hE_9.trans hR
  have s2_10 := (hO 2 rfl).trans s2_9
  have hbb2_10 := hbb2_9.ext' hR
  have hsx1_10 := hsx1_9.ext' hR
  have s25_10 : get a10 25 = Dg.val (pair (root (l.take (half l.length))) (root (l.drop (half l.length)))) := t25
  clear hE_9 hN_9 hD_9 s0_9 s2_9 s3_9 hbb2_9 hsx1_9
  refine tail_none rfl rfl (does_storeD (o := 0) (n := 4) (cs' := [w32 (pair (root (l.take (half l.length))) (root (l.drop (half l.length)))).a, w32 (pair (root (l.take (half l.length))) (root (l.drop (half l.length)))).b, w32 (pair (root (l.take (half l.length))) (root (l.drop (half l.length)))).c, w32 (pair (root (l.take (half l.length))) (root (l.drop (half l.length)))).d]) (V := Dg.val (pair (root (l.take (half l.length))) (root (l.drop (half l.length))))) s2_10 s25_10 hbb2_10 (Nat.le_of_ble_eq_true rfl) rfl siz_24 rfl rfl (fun wd11 hX hz hbb2_11 => ?_))
  have hE_11 := hE_10.since hX (fun k e => e ▸ fr_b2)
  have hsx1_11 := SlT.over hsx1_10 hX nb_x1_b2
  clear hX hz hE_10 hbb2_10 hsx1_10
  refine tail_nil ?_
  refine wp_ret ?_
  refine res_one (V := Dg.val (pair (root (l.take (half l.length))) (root (l.drop (half l.length))))) rfl hD_10 (ResIs.cell s2_10 hbb2_11 row_24 rfl rfl) ?_
  exact ⟨by show Dg.val _ = Dg.val _; rw [root_two h2], hE_11⟩
theorem root_ (l : List Dg) (x1 : Value) (w0 : World) (hL : Laid w0) (hx1 : SlT DG 0 0 l x1 w0) (hn : l.length ≤ 100000) :
    Gives Tryd.prog 23 #[x1] w0 (Pr.ex (Dg.val (root l))) := root__r _ l x1 w0 hL hx1 hn rfl

theorem rootR_r : ∀ (N : Nat) (l : List Dg) (x1 : Value) (w0 : World) (hx1 : SlT DG 0 0 l x1 w0) (hn : l.length ≤ 100000) (hN : l.length = N),
    Gives Tryd.prog 25 #[x1] w0 (Pr.ex (Dg.val (root l))) := by
 intro N
 induction N using Nat.strongRecOn with
 | _ N ih =>
  intro l x1 w0 hx1 hn hN
  refine enter (N := 26) Tryd.func25 rfl rfl ?_
  intro a0 hN_0 hD_0 hA
  have s0_0 : get a0 0 = x1 := hA 0 _ rfl
  clear hA
  have hE_0 : Ext w0 w0 := Ext.refl w0
  have hsx1_0 := hx1.close
  refine wp_seq ?_
  refine region_lex [2] [(2, Pr.box' w0.heap.size 24 [w32 (Dg.zero).a, w32 (Dg.zero).b, w32 (Dg.zero).c, w32 (Dg.zero).d])] 1 hN_0 hD_0 (by kernel_rfl) (by kernel_rfl) ?_ ?_
  refine Asks.cons ?_ (Asks.zero _)
  refine Ask.fresh rfl rfl ?_
  intro aq wq hNq hO hR hT
  exact does_alloc zero_24 (fun b w2 he hlo hb => ⟨he, ⟨b, rfl, Nat.le_trans hR.size' hlo, hb⟩, ⟨b, rfl, hlo, hb.lt⟩⟩)
  intro a1 wd1 hN_1 hD_1 hO hR hA hU
  obtain ⟨t2, _⟩ := hA
  have hE_1 := hE_0.trans hR
  have s0_1 := (hO 0 rfl).trans s0_0
  have hsx1_1 := hsx1_0.ext' hR
  obtain ⟨b2, s2_1, lo_b2, hbb2_1⟩ := t2
  have nb_x1_b2 := SlT.old hsx1_0 lo_b2
  have fr_b2 : w0.heap.size ≤ b2 := Nat.le_trans hE_0.size' lo_b2
  clear hE_0 hN_0 hD_0 s0_0 hsx1_0
  refine tail_nil ?_
  refine wp_seq ?_
  refine wp_seq ?_
  refine region_lex [] [(4, Pr.ex (x1)), (5, Pr.ex (i64 ((l.length : Nat) : Int))), (6, Pr.ex (Value.bool (decide (((l.length : Nat) : Int) = ((0 : Nat) : Int)))))] 3 hN_1 hD_1 (by kernel_rfl) (by kernel_rfl) ?_ ?_
  refine Asks.cons ?_ (Asks.cons ?_ (Asks.cons ?_ (Asks.zero _)))
  exact Ask.plain rfl rfl fun aq wq hNq hO hR hT => does_move (V := x1) ((hO 0 rfl).trans s0_1) ⟨Ext.refl _, rfl⟩
  exact Ask.plain rfl rfl fun aq wq hNq hO hR hT => does_len (T := DG) (xs := l) sli_34 (SlT.at (hT 4 rfl rfl) (hsx1_1.ext' hR)) ⟨Ext.refl _, rfl⟩
  exact Ask.plain rfl rfl fun aq wq hNq hO hR hT => does_eql (a := ((l.length : Nat) : Int)) (b := ((0 : Nat) : Int)) (hT 5 rfl rfl) rfl ⟨Ext.refl _, rfl⟩
  intro a2 wd2 hN_2 hD_2 hO hR hA hU
  obtain ⟨_, _, t6, _⟩ := hA
  have hE_2 := hE_1.trans hR
  have s0_2 := (hO 0 rfl).trans s0_1
  have s2_2 := (hO 2 rfl).trans s2_1
  have hbb2_2 := hbb2_1.ext' hR
  have hsx1_2 := hsx1_1.ext' hR
  have s6_2 : get a2 6 = Value.bool (decide (((l.length : Nat) : Int) = ((0 : Nat) : Int))) := t6
  clear hE_1 hN_1 hD_1 s0_1 s2_1 hbb2_1 hsx1_1
  refine tail_nil ?_
  refine wp_if (B := decide (((l.length : Nat) : Int) = ((0 : Nat) : Int))) s6_2 (fun hc0 => ?_) (fun hc0 => ?_)
  have hc0 := of_decide_eq_true hc0
  have hl0 : l = [] := List.length_eq_zero_iff.1 (by omega)
  refine wp_seq ?_
  refine region_lex [] [(7, Pr.ex (Dg.val (of (([] : List UInt8)))))] 1 hN_2 hD_2 (by kernel_rfl) (by kernel_rfl) ?_ ?_
  refine Asks.cons ?_ (Asks.zero _)
  exact Ask.plain rfl rfl fun aq wq hNq hO hR hT => does_ret (vs := #[str (([] : List UInt8))]) call_42 (args1 rfl) rfl ((ofR (([] : List UInt8)) wq (by first | assumption | decide | omega)).mono fun v w2 h => ⟨h.2, h.1⟩)
  intro a3 wd3 hN_3 hD_3 hO hR hA hU
  obtain ⟨t7, _⟩ := hA
  have hE_3 := hE_2.trans hR
  have s2_3 := (hO 2 rfl).trans s2_2
  have hbb2_3 := hbb2_2.ext' hR
  have hsx1_3 := hsx1_2.ext' hR
  have s7_3 : get a3 7 = Dg.val (of (([] : List UInt8))) := t7
  clear hE_2 hN_2 hD_2 s0_2 s2_2 s6_2 hbb2_2 hsx1_2
  refine tail_none rfl rfl (does_storeD (o := 0) (n := 4) (cs' := [w32 (of (([] : List UInt8))).a, w32 (of (([] : List UInt8))).b, w32 (of (([] : List UInt8))).c, w32 (of (([] : List UInt8))).d]) (V := Dg.val (of (([] : List UInt8)))) s2_3 s7_3 hbb2_3 (Nat.le_of_ble_eq_true rfl) rfl siz_24 rfl rfl (fun wd4 hX hz hbb2_4 => ?_))
  have hE_4 := hE_3.since hX (fun k e => e ▸ fr_b2)
  have hsx1_4 := SlT.over hsx1_3 hX nb_x1_b2
  clear hX hz hE_3 hbb2_3 hsx1_3
  refine tail_nil ?_
  refine wp_ret ?_
  refine res_one (V := Dg.val (of (([] : List UInt8)))) rfl hD_3 (ResIs.cell s2_3 hbb2_4 row_24 rfl rfl) ?_
  exact ⟨by show Dg.val _ = Dg.val _; rw [hl0, root_nil], hE_4⟩
  have hc0 := of_decide_eq_false hc0
  refine wp_skip ?_
  refine wp_seq ?_
  refine wp_seq ?_
  refine region_lex [] [(8, Pr.ex (x1)), (9, Pr.ex (i64 ((l.length : Nat) : Int))), (10, Pr.ex (Value.bool (decide (((l.length : Nat) : Int) = ((1 : Nat) : Int)))))] 3 hN_2 hD_2 (by kernel_rfl) (by kernel_rfl) ?_ ?_
  refine Asks.cons ?_ (Asks.cons ?_ (Asks.cons ?_ (Asks.zero _)))
  exact Ask.plain rfl rfl fun aq wq hNq hO hR hT => does_move (V := x1) ((hO 0 rfl).trans s0_2) ⟨Ext.refl _, rfl⟩
  exact Ask.plain rfl rfl fun aq wq hNq hO hR hT => does_len (T := DG) (xs := l) sli_34 (SlT.at (hT 8 rfl rfl) (hsx1_2.ext' hR)) ⟨Ext.refl _, rfl⟩
  exact Ask.plain rfl rfl fun aq wq hNq hO hR hT => does_eql (a := ((l.length : Nat) : Int)) (b := ((1 : Nat) : Int)) (hT 9 rfl rfl) rfl ⟨Ext.refl _, rfl⟩
  intro a5 wd5 hN_5 hD_5 hO hR hA hU
  obtain ⟨_, _, t10, _⟩ := hA
  have hE_5 := hE_2.trans hR
  have s0_5 := (hO 0 rfl).trans s0_2
  have s2_5 := (hO 2 rfl).trans s2_2
  have hbb2_5 := hbb2_2.ext' hR
  have hsx1_5 := hsx1_2.ext' hR
  have s10_5 : get a5 10 = Value.bool (decide (((l.length : Nat) : Int) = ((1 : Nat) : Int))) := t10
  clear hE_2 hN_2 hD_2 s0_2 s2_2 s6_2 hbb2_2 hsx1_2
  refine tail_nil ?_
  refine wp_if (B := decide (((l.length : Nat) : Int) = ((1 : Nat) : Int))) s10_5 (fun hc1 => ?_) (fun hc1 => ?_)
  have hc1 := of_decide_eq_true hc1
  obtain ⟨x, hl1⟩ := one_of (l := l) (by omega)
  refine wp_seq ?_
  refine region_lex [] [(11, Pr.ex (x1)), (12, Pr.pt' 0 (w0.heap.size + 1) [w32 (x).a, w32 (x).b, w32 (x).c, w32 (x).d]), (13, Pr.ex (Dg.val (x)))] 3 hN_5 hD_5 (by kernel_rfl) (by kernel_rfl) ?_ ?_
  refine Asks.cons ?_ (Asks.cons ?_ (Asks.cons ?_ (Asks.zero _)))
  exact Ask.plain rfl rfl fun aq wq hNq hO hR hT => does_move (V := x1) ((hO 0 rfl).trans s0_5) ⟨Ext.refl _, rfl⟩
  exact Ask.plain rfl rfl fun aq wq hNq hO hR hT => does_indexSl (T := DG) (xs := l) (i := ((0 : Nat) : Int)) (X := x) sli_34 rfl (SlT.at (hT 11 rfl rfl) (hsx1_5.ext' hR)) rfl (by omega) (by subst hl1; rfl) (fun v h => ⟨Ext.refl _, h⟩)
  exact Ask.plain rfl rfl fun aq wq hNq hO hR hT => does_loadP (cs := [w32 (x).a, w32 (x).b, w32 (x).c, w32 (x).d]) (hT 12 rfl rfl) row_24 rfl ⟨Ext.refl _, rfl⟩
  intro a6 wd6 hN_6 hD_6 hO hR hA hU
  obtain ⟨_, _, t13, _⟩ := hA
  have hE_6 := hE_5.trans hR
  have s2_6 := (hO 2 rfl).trans s2_5
  have hbb2_6 := hbb2_5.ext' hR
  have hsx1_6 := hsx1_5.ext' hR
  have s13_6 : get a6 13 = Dg.val (x) := t13
  clear hE_5 hN_5 hD_5 s0_5 s2_5 s10_5 hbb2_5 hsx1_5
  refine tail_none rfl rfl (does_storeD (o := 0) (n := 4) (cs' := [w32 (x).a, w32 (x).b, w32 (x).c, w32 (x).d]) (V := Dg.val (x)) s2_6 s13_6 hbb2_6 (Nat.le_of_ble_eq_true rfl) rfl siz_24 rfl rfl (fun wd7 hX hz hbb2_7 => ?_))
  have hE_7 := hE_6.since hX (fun k e => e ▸ fr_b2)
  have hsx1_7 := SlT.over hsx1_6 hX nb_x1_b2
  clear hX hz hE_6 hbb2_6 hsx1_6
  refine tail_nil ?_
  refine wp_ret ?_
  refine res_one (V := Dg.val (x)) rfl hD_6 (ResIs.cell s2_6 hbb2_7 row_24 rfl rfl) ?_
  exact ⟨by show Dg.val _ = Dg.val _; rw [hl1, root_one], hE_7⟩
  have hc1 := of_decide_eq_false hc1
  have h2 : 2 ≤ l.length := by omega
  have hh := half_lt h2
  have hp := half_pos l.length
  refine wp_skip ?_
  refine wp_seq ?_
  refine region_lex [] [(14, Pr.ex (x1)), (15, Pr.ex (i64 ((l.length : Nat) : Int))), (16, Pr.ex (i64 ((half l.length : Nat) : Int))), (3, Pr.ex (i64 ((half l.length : Nat) : Int)))] 4 hN_5 hD_5 (by kernel_rfl) (by kernel_rfl) ?_ ?_
  refine Asks.cons ?_ (Asks.cons ?_ (Asks.cons ?_ (Asks.cons ?_ (Asks.zero _))))
  exact Ask.plain rfl rfl fun aq wq hNq hO hR hT => does_move (V := x1) ((hO 0 rfl).trans s0_5) ⟨Ext.refl _, rfl⟩
  exact Ask.plain rfl rfl fun aq wq hNq hO hR hT => does_len (T := DG) (xs := l) sli_34 (SlT.at (hT 14 rfl rfl) (hsx1_5.ext' hR)) ⟨Ext.refl _, rfl⟩
  exact Ask.plain rfl rfl fun aq wq hNq hO hR hT => does_ret (vs := #[i64 ((l.length : Nat) : Int)]) call_47 (args1 (hT 15 rfl rfl)) rfl ((halfR (l.length) wq (by omega) (by omega)).mono fun v w2 h => ⟨h.2, h.1⟩)
  exact Ask.plain rfl rfl fun aq wq hNq hO hR hT => does_assign (V := i64 ((half l.length : Nat) : Int)) (hT 16 rfl rfl) ⟨Ext.refl _, rfl⟩
  intro a8 wd8 hN_8 hD_8 hO hR hA hU
  obtain ⟨_, _, _, t3, _⟩ := hA
  have hE_8 := hE_5.trans hR
  have s0_8 := (hO 0 rfl).trans s0_5
  have s2_8 := (hO 2 rfl).trans s2_5
  have hbb2_8 := hbb2_5.ext' hR
  have hsx1_8 := hsx1_5.ext' hR
  have s3_8 : get a8 3 = i64 ((half l.length : Nat) : Int) := t3
  clear hE_5 hN_5 hD_5 s0_5 s2_5 s10_5 hbb2_5 hsx1_5
  refine tail_nil ?_
  refine wp_seq ?_
  refine region_any [] [(17, Pr.ex (x1)), (18, Pr.ex (i64 ((half l.length : Nat) : Int))), (19, Pr.sl' DG 0 (w0.heap.size + 1) (l.take (half l.length))), (20, Pr.ex (Dg.val (root (l.take (half l.length))))), (21, Pr.ex (x1)), (22, Pr.ex (i64 ((half l.length : Nat) : Int))), (23, Pr.sl' DG 0 (w0.heap.size + 1) (l.drop (half l.length))), (24, Pr.ex (Dg.val (root (l.drop (half l.length))))), (25, Pr.ex (Dg.val (pair (root (l.take (half l.length))) (root (l.drop (half l.length))))))] 9 mixed hN_8 hD_8 (by kernel_rfl) (by kernel_rfl) (by kernel_rfl) ?_ ?_
  refine Asks.cons ?_ (Asks.cons ?_ (Asks.cons ?_ (Asks.cons ?_ (Asks.cons ?_ (Asks.cons ?_ (Asks.cons ?_ (Asks.cons ?_ (Asks.cons ?_ (Asks.zero _)))))))))
  exact Ask.plainD rfl rfl fun aq wq hNq hO hR hT => does_move (V := x1) ((hO 0 rfl).trans s0_8) ⟨Ext.refl _, rfl⟩
  exact Ask.plainD rfl rfl fun aq wq hNq hO hR hT => does_move (V := i64 ((half l.length : Nat) : Int)) ((hO 3 rfl).trans s3_8) ⟨Ext.refl _, rfl⟩
  exact Ask.plainD rfl rfl fun aq wq hNq hO hR hT => does_sliceHi (T := DG) (xs := l) (k := ((half l.length : Nat) : Int)) sli_34 rfl (SlT.at (hT 17 rfl rfl) (hsx1_8.ext' hR)) (hT 18 rfl rfl) (by omega) (by omega) (fun v h => ⟨Ext.refl _, h⟩)
  exact Ask.plainD rfl rfl fun aq wq hNq hO hR hT => does_ret (vs := #[get aq 19]) call_25 (args1 rfl) rfl ((ih _ (by simp only [List.length_take, List.length_drop]; omega) (l.take (half l.length)) (get aq 19) wq ((hT 19 rfl rfl).wide (Nat.zero_le _) (.inl rfl)) (by simp only [List.length_take, List.length_drop]; omega) rfl).mono fun v w2 h => ⟨h.2, h.1⟩)
  exact Ask.plainD rfl rfl fun aq wq hNq hO hR hT => does_move (V := x1) ((hO 0 rfl).trans s0_8) ⟨Ext.refl _, rfl⟩
  exact Ask.plainD rfl rfl fun aq wq hNq hO hR hT => does_move (V := i64 ((half l.length : Nat) : Int)) ((hO 3 rfl).trans s3_8) ⟨Ext.refl _, rfl⟩
  exact Ask.plainD rfl rfl fun aq wq hNq hO hR hT => does_sliceLo (T := DG) (xs := l) (k := ((half l.length : Nat) : Int)) sli_34 rfl (SlT.at (hT 21 rfl rfl) (hsx1_8.ext' hR)) (hT 22 rfl rfl) (by omega) (by omega) (fun v h => ⟨Ext.refl _, h⟩)
  exact Ask.plainD rfl rfl fun aq wq hNq hO hR hT => does_ret (vs := #[get aq 23]) call_25 (args1 rfl) rfl ((ih _ (by simp only [List.length_take, List.length_drop]; omega) (l.drop (half l.length)) (get aq 23) wq ((hT 23 rfl rfl).wide (Nat.zero_le _) (.inl rfl)) (by simp only [List.length_take, List.length_drop]; omega) rfl).mono fun v w2 h => ⟨h.2, h.1⟩)
  exact Ask.plainD rfl rfl fun aq wq hNq hO hR hT => does_ret (vs := #[Dg.val (root (l.take (half l.length))), Dg.val (root (l.drop (half l.length)))]) call_48 (args2 (hT 20 rfl rfl) (hT 24 rfl rfl)) rfl ((pairR (root (l.take (half l.length))) (root (l.drop (half l.length))) wq).mono fun v w2 h => ⟨h.2, h.1⟩)
  intro a9 wd9 hN_9 hD_9 hO hR hA hU
  obtain ⟨_, _, _, _, _, _, _, _, t25, _⟩ := hA
  have hE_9 := hE_8.trans hR
  have s2_9 := (hO 2 rfl).trans s2_8
  have hbb2_9 := hbb2_8.ext' hR
  have hsx1_9 := hsx1_8.ext' hR
  have s25_9 : get a9 25 = Dg.val (pair (root (l.take (half l.length))) (root (l.drop (half l.length)))) := t25
  clear hE_8 hN_8 hD_8 s0_8 s2_8 s3_8 hbb2_8 hsx1_8
  refine tail_none rfl rfl (does_storeD (o := 0) (n := 4) (cs' := [w32 (pair (root (l.take (half l.length))) (root (l.drop (half l.length)))).a, w32 (pair (root (l.take (half l.length))) (root (l.drop (half l.length)))).b, w32 (pair (root (l.take (half l.length))) (root (l.drop (half l.length)))).c, w32 (pair (root (l.take (half l.length))) (root (l.drop (half l.length)))).d]) (V := Dg.val (pair (root (l.take (half l.length))) (root (l.drop (half l.length))))) s2_9 s25_9 hbb2_9 (Nat.le_of_ble_eq_true rfl) rfl siz_24 rfl rfl (fun wd10 hX hz hbb2_10 => ?_))
  have hE_10 := hE_9.since hX (fun k e => e ▸ fr_b2)
  have hsx1_10 := SlT.over hsx1_9 hX nb_x1_b2
  clear hX hz hE_9 hbb2_9 hsx1_9
  refine tail_nil ?_
  refine wp_ret ?_
  refine res_one (V := Dg.val (pair (root (l.take (half l.length))) (root (l.drop (half l.length))))) rfl hD_9 (ResIs.cell s2_9 hbb2_10 row_24 rfl rfl) ?_
  exact ⟨by show Dg.val _ = Dg.val _; rw [root_two h2], hE_10⟩
theorem rootR (l : List Dg) (x1 : Value) (w0 : World) (hx1 : SlT DG 0 0 l x1 w0) (hn : l.length ≤ 100000) :
    Gives Tryd.prog 25 #[x1] w0 (Pr.ex (Dg.val (root l))) := rootR_r _ l x1 w0 hx1 hn rfl

end Go.Proofs.YtaeohnkfmachfabDoor
