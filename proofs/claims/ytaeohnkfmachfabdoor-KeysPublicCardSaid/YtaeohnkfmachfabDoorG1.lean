/- The walks of functions of the program: printed. -/
import Derived.Test.YtaeohnkfmachfabDoorF0
set_option maxRecDepth 100000
namespace Go.Proofs.YtaeohnkfmachfabDoor
open Go Go.RowKit Sk Sd
theorem rotl (x : UInt32) (n : Nat) (w0 : World) (hn : n < 32) :
    Gives Tryd.prog 85 #[w32 (x), i64 ((n : Nat) : Int)] w0 (Pr.ex (w32 (rot x n))) := by
 refine enter (N := 17) Tryd.func85 rfl rfl ?_
 intro a0 hN_0 hD_0 hA
 have s0_0 : get a0 0 = w32 (x) := hA 0 _ rfl
 have s1_0 : get a0 1 = i64 ((n : Nat) : Int) := hA 1 _ rfl
 clear hA
 have hE_0 : Ext w0 w0 := Ext.refl w0
 refine wp_seq ?_
 refine region_lex [] [(4, Pr.ex (w32 (0)))] 1 hN_0 hD_0 (by kernel_rfl) (by kernel_rfl) ?_ ?_
 refine Asks.cons ?_ (Asks.zero _)
 exact Ask.plain rfl rfl fun aq wq hNq hO hR hT => does_assign (V := w32 (0)) rfl ⟨Ext.refl _, rfl⟩
 intro a1 wd1 hN_1 hD_1 hO hR hA hU
 obtain ⟨_, _⟩ := hA
 have hE_1 := hE_0.trans hR
 have s0_1 := (hO 0 rfl).trans s0_0
 have s1_1 := (hO 1 rfl).trans s1_0
 clear hE_0 hN_0 hD_0 s0_0 s1_0
 refine tail_nil ?_
 refine wp_seq ?_
 refine region_lex [] [(6, Pr.ex (i64 ((n : Nat) : Int))), (7, Pr.ex (w64 (UInt64.ofNat n))), (8, Pr.ex (Value.int .u64 (((n : Nat) : Int)))), (5, Pr.ex (Value.int .u64 (((n : Nat) : Int))))] 4 hN_1 hD_1 (by kernel_rfl) (by kernel_rfl) ?_ ?_
 refine Asks.cons ?_ (Asks.cons ?_ (Asks.cons ?_ (Asks.cons ?_ (Asks.zero _))))
 exact Ask.plain rfl rfl fun aq wq hNq hO hR hT => does_move (V := i64 ((n : Nat) : Int)) ((hO 1 rfl).trans s1_1) ⟨Ext.refl _, rfl⟩
 exact Ask.plain rfl rfl fun aq wq hNq hO hR hT => does_conv ⟨_, Tryd.underlying3⟩ Tryd.underlying77 (hT 6 rfl rfl) (wrap_u64 _) ⟨Ext.refl _, rfl⟩
 exact Ask.plain rfl rfl fun aq wq hNq hO hR hT => does_band (hT 7 rfl rfl) rfl (and31 hn) ⟨Ext.refl _, rfl⟩
 exact Ask.plain rfl rfl fun aq wq hNq hO hR hT => does_assign (V := Value.int .u64 (((n : Nat) : Int))) (hT 8 rfl rfl) ⟨Ext.refl _, rfl⟩
 intro a2 wd2 hN_2 hD_2 hO hR hA hU
 obtain ⟨_, _, _, t5, _⟩ := hA
 have hE_2 := hE_1.trans hR
 have s0_2 := (hO 0 rfl).trans s0_1
 have s5_2 : get a2 5 = Value.int .u64 (((n : Nat) : Int)) := t5
 clear hE_1 hN_1 hD_1 s0_1 s1_1
 refine tail_nil ?_
 refine wp_seq ?_
 refine region_lex [] [(9, Pr.ex (w32 (x))), (10, Pr.ex (Value.int .u64 (((n : Nat) : Int)))), (11, Pr.ex (w32 (UInt32.ofNat (x.toNat * 2 ^ n)))), (12, Pr.ex (w32 (x))), (13, Pr.ex (Value.int .u64 (((n : Nat) : Int)))), (14, Pr.ex (Value.int .u64 (((32 - n : Nat) : Int)))), (15, Pr.ex (w32 (UInt32.ofNat (x.toNat / 2 ^ (32 - n))))), (16, Pr.ex (w32 (UInt32.ofNat (x.toNat * 2 ^ n) ||| UInt32.ofNat (x.toNat / 2 ^ (32 - n))))), (4, Pr.ex (w32 (UInt32.ofNat (x.toNat * 2 ^ n) ||| UInt32.ofNat (x.toNat / 2 ^ (32 - n)))))] 9 hN_2 hD_2 (by kernel_rfl) (by kernel_rfl) ?_ ?_
 refine Asks.cons ?_ (Asks.cons ?_ (Asks.cons ?_ (Asks.cons ?_ (Asks.cons ?_ (Asks.cons ?_ (Asks.cons ?_ (Asks.cons ?_ (Asks.cons ?_ (Asks.zero _)))))))))
 exact Ask.plain rfl rfl fun aq wq hNq hO hR hT => does_move (V := w32 (x)) ((hO 0 rfl).trans s0_2) ⟨Ext.refl _, rfl⟩
 exact Ask.plain rfl rfl fun aq wq hNq hO hR hT => does_move (V := Value.int .u64 (((n : Nat) : Int))) ((hO 5 rfl).trans s5_2) ⟨Ext.refl _, rfl⟩
 exact Ask.plain rfl rfl fun aq wq hNq hO hR hT => does_shl32 (b := n) (hT 9 rfl rfl) (hT 10 rfl rfl) (by omega) ⟨Ext.refl _, rfl⟩
 exact Ask.plain rfl rfl fun aq wq hNq hO hR hT => does_move (V := w32 (x)) ((hO 0 rfl).trans s0_2) ⟨Ext.refl _, rfl⟩
 exact Ask.plain rfl rfl fun aq wq hNq hO hR hT => does_move (V := Value.int .u64 (((n : Nat) : Int))) ((hO 5 rfl).trans s5_2) ⟨Ext.refl _, rfl⟩
 exact Ask.plain rfl rfl fun aq wq hNq hO hR hT => does_ksub (r := ((32 - n : Nat) : Int)) rfl (hT 13 rfl rfl) (by rw [wrap64_in (by omega) (by omega)]; omega) ⟨Ext.refl _, rfl⟩
 exact Ask.plain rfl rfl fun aq wq hNq hO hR hT => does_shr32 (b := 32 - n) (hT 12 rfl rfl) (hT 14 rfl rfl) (by omega) ⟨Ext.refl _, rfl⟩
 exact Ask.plain rfl rfl fun aq wq hNq hO hR hT => does_or32 (hT 11 rfl rfl) (hT 15 rfl rfl) ⟨Ext.refl _, rfl⟩
 exact Ask.plain rfl rfl fun aq wq hNq hO hR hT => does_assign (V := w32 (UInt32.ofNat (x.toNat * 2 ^ n) ||| UInt32.ofNat (x.toNat / 2 ^ (32 - n)))) (hT 16 rfl rfl) ⟨Ext.refl _, rfl⟩
 intro a3 wd3 hN_3 hD_3 hO hR hA hU
 obtain ⟨_, _, _, _, _, _, _, _, t4, _⟩ := hA
 have hE_3 := hE_2.trans hR
 have s4_3 : get a3 4 = w32 (UInt32.ofNat (x.toNat * 2 ^ n) ||| UInt32.ofNat (x.toNat / 2 ^ (32 - n))) := t4
 clear hE_2 hN_2 hD_2 s0_2 s5_2
 refine tail_nil ?_
 refine wp_ret ?_
 refine res_one (V := w32 (UInt32.ofNat (x.toNat * 2 ^ n) ||| UInt32.ofNat (x.toNat / 2 ^ (32 - n)))) rfl hD_3 s4_3 ?_
 exact ⟨congrArg w32 (rot_or x hn), hE_3⟩

theorem turn (x : UInt32) (n : Nat) (w0 : World) (hn : n < 32) :
    Gives Tryd.prog 81 #[w32 (x), i64 ((n : Nat) : Int)] w0 (Pr.ex (w32 (rot x n))) := by
 refine enter (N := 9) Tryd.func81 rfl rfl ?_
 intro a0 hN_0 hD_0 hA
 have s0_0 : get a0 0 = w32 (x) := hA 0 _ rfl
 have s1_0 : get a0 1 = i64 ((n : Nat) : Int) := hA 1 _ rfl
 clear hA
 have hE_0 : Ext w0 w0 := Ext.refl w0
 refine wp_seq ?_
 refine region_lex [] [(4, Pr.ex (w32 (0)))] 1 hN_0 hD_0 (by kernel_rfl) (by kernel_rfl) ?_ ?_
 refine Asks.cons ?_ (Asks.zero _)
 exact Ask.plain rfl rfl fun aq wq hNq hO hR hT => does_assign (V := w32 (0)) rfl ⟨Ext.refl _, rfl⟩
 intro a1 wd1 hN_1 hD_1 hO hR hA hU
 obtain ⟨_, _⟩ := hA
 have hE_1 := hE_0.trans hR
 have s0_1 := (hO 0 rfl).trans s0_0
 have s1_1 := (hO 1 rfl).trans s1_0
 clear hE_0 hN_0 hD_0 s0_0 s1_0
 refine tail_nil ?_
 refine wp_seq ?_
 refine region_lex [] [(5, Pr.ex (w32 (x))), (6, Pr.ex (i64 ((n : Nat) : Int))), (7, Pr.ex (i64 ((n : Nat) : Int))), (8, Pr.ex (w32 (rot x n))), (4, Pr.ex (w32 (rot x n)))] 5 hN_1 hD_1 (by kernel_rfl) (by kernel_rfl) ?_ ?_
 refine Asks.cons ?_ (Asks.cons ?_ (Asks.cons ?_ (Asks.cons ?_ (Asks.cons ?_ (Asks.zero _)))))
 exact Ask.plain rfl rfl fun aq wq hNq hO hR hT => does_move (V := w32 (x)) ((hO 0 rfl).trans s0_1) ⟨Ext.refl _, rfl⟩
 exact Ask.plain rfl rfl fun aq wq hNq hO hR hT => does_move (V := i64 ((n : Nat) : Int)) ((hO 1 rfl).trans s1_1) ⟨Ext.refl _, rfl⟩
 exact Ask.plain rfl rfl fun aq wq hNq hO hR hT => does_rem (k := .i64) (a := ((n : Nat) : Int)) (b := ((32 : Nat) : Int)) (r := ((n : Nat) : Int)) (hT 6 rfl rfl) rfl (by omega) (by omega) (by omega) ⟨Ext.refl _, rfl⟩
 exact Ask.plain rfl rfl fun aq wq hNq hO hR hT => does_ret (vs := #[w32 (x), i64 ((n : Nat) : Int)]) call_85 (args2 (hT 5 rfl rfl) (hT 7 rfl rfl)) rfl ((rotl (x) (n) wq hn).mono fun v w2 h => ⟨h.2, h.1⟩)
 exact Ask.plain rfl rfl fun aq wq hNq hO hR hT => does_assign (V := w32 (rot x n)) (hT 8 rfl rfl) ⟨Ext.refl _, rfl⟩
 intro a2 wd2 hN_2 hD_2 hO hR hA hU
 obtain ⟨_, _, _, _, t4, _⟩ := hA
 have hE_2 := hE_1.trans hR
 have s4_2 : get a2 4 = w32 (rot x n) := t4
 clear hE_1 hN_1 hD_1 s0_1 s1_1
 refine tail_nil ?_
 refine wp_ret ?_
 refine res_one (V := w32 (rot x n)) rfl hD_2 s4_2 ?_
 exact ⟨rfl, hE_2⟩

theorem turnR (x : UInt32) (n : Nat) (w0 : World) (hn : n < 32) :
    Gives Tryd.prog 75 #[w32 (x), i64 ((n : Nat) : Int)] w0 (Pr.ex (w32 (rot x n))) := by
 refine enter (N := 29) Tryd.func75 rfl rfl ?_
 intro a0 hN_0 hD_0 hA
 have s0_0 : get a0 0 = w32 (x) := hA 0 _ rfl
 have s1_0 : get a0 1 = i64 ((n : Nat) : Int) := hA 1 _ rfl
 clear hA
 have hE_0 : Ext w0 w0 := Ext.refl w0
 have hx := x.toNat_lt
 refine wp_seq ?_
 refine region_lex [] [(4, Pr.ex (w32 (0)))] 1 hN_0 hD_0 (by kernel_rfl) (by kernel_rfl) ?_ ?_
 refine Asks.cons ?_ (Asks.zero _)
 exact Ask.plain rfl rfl fun aq wq hNq hO hR hT => does_assign (V := w32 (0)) rfl ⟨Ext.refl _, rfl⟩
 intro a1 wd1 hN_1 hD_1 hO hR hA hU
 obtain ⟨_, _⟩ := hA
 have hE_1 := hE_0.trans hR
 have s0_1 := (hO 0 rfl).trans s0_0
 have s1_1 := (hO 1 rfl).trans s1_0
 clear hE_0 hN_0 hD_0 s0_0 s1_0
 refine tail_nil ?_
 refine wp_seq ?_
 refine region_lex [] [(8, Pr.ex (i64 ((n : Nat) : Int))), (9, Pr.ex (i64 ((n : Nat) : Int))), (5, Pr.ex (i64 ((n : Nat) : Int)))] 3 hN_1 hD_1 (by kernel_rfl) (by kernel_rfl) ?_ ?_
 refine Asks.cons ?_ (Asks.cons ?_ (Asks.cons ?_ (Asks.zero _)))
 exact Ask.plain rfl rfl fun aq wq hNq hO hR hT => does_move (V := i64 ((n : Nat) : Int)) ((hO 1 rfl).trans s1_1) ⟨Ext.refl _, rfl⟩
 exact Ask.plain rfl rfl fun aq wq hNq hO hR hT => does_rem (k := .i64) (a := ((n : Nat) : Int)) (b := ((32 : Nat) : Int)) (r := ((n : Nat) : Int)) (hT 8 rfl rfl) rfl (by omega) (by omega) (by omega) ⟨Ext.refl _, rfl⟩
 exact Ask.plain rfl rfl fun aq wq hNq hO hR hT => does_assign (V := i64 ((n : Nat) : Int)) (hT 9 rfl rfl) ⟨Ext.refl _, rfl⟩
 intro a2 wd2 hN_2 hD_2 hO hR hA hU
 obtain ⟨_, _, t5, _⟩ := hA
 have hE_2 := hE_1.trans hR
 have s0_2 := (hO 0 rfl).trans s0_1
 have s5_2 : get a2 5 = i64 ((n : Nat) : Int) := t5
 clear hE_1 hN_1 hD_1 s0_1 s1_1
 refine tail_nil ?_
 refine wp_seq ?_
 refine wp_seq ?_
 refine region_lex [] [(10, Pr.ex (i64 ((n : Nat) : Int))), (11, Pr.ex (Value.bool (decide (((n : Nat) : Int) < ((0 : Nat) : Int)))))] 2 hN_2 hD_2 (by kernel_rfl) (by kernel_rfl) ?_ ?_
 refine Asks.cons ?_ (Asks.cons ?_ (Asks.zero _))
 exact Ask.plain rfl rfl fun aq wq hNq hO hR hT => does_move (V := i64 ((n : Nat) : Int)) ((hO 5 rfl).trans s5_2) ⟨Ext.refl _, rfl⟩
 exact Ask.plain rfl rfl fun aq wq hNq hO hR hT => does_lss (a := ((n : Nat) : Int)) (b := ((0 : Nat) : Int)) (hT 10 rfl rfl) rfl ⟨Ext.refl _, rfl⟩
 intro a3 wd3 hN_3 hD_3 hO hR hA hU
 obtain ⟨_, t11, _⟩ := hA
 have hE_3 := hE_2.trans hR
 have s0_3 := (hO 0 rfl).trans s0_2
 have s5_3 := (hO 5 rfl).trans s5_2
 have s11_3 : get a3 11 = Value.bool (decide (((n : Nat) : Int) < ((0 : Nat) : Int))) := t11
 clear hE_2 hN_2 hD_2 s0_2 s5_2
 refine tail_nil ?_
 refine wp_if (B := decide (((n : Nat) : Int) < ((0 : Nat) : Int))) s11_3 (fun hc0 => ?_) (fun hc0 => ?_)
 have hc0 := of_decide_eq_true hc0
 omega
 have hc0 := of_decide_eq_false hc0
 refine wp_skip ?_
 refine wp_seq ?_
 refine region_lex [] [(14, Pr.ex (w32 (x))), (15, Pr.ex (Value.int .u64 (((x.toNat : Nat) : Int)))), (6, Pr.ex (Value.int .u64 (((x.toNat : Nat) : Int))))] 3 hN_3 hD_3 (by kernel_rfl) (by kernel_rfl) ?_ ?_
 refine Asks.cons ?_ (Asks.cons ?_ (Asks.cons ?_ (Asks.zero _)))
 exact Ask.plain rfl rfl fun aq wq hNq hO hR hT => does_move (V := w32 (x)) ((hO 0 rfl).trans s0_3) ⟨Ext.refl _, rfl⟩
 exact Ask.plain rfl rfl fun aq wq hNq hO hR hT => does_conv ⟨_, Tryd.underlying22⟩ Tryd.underlying80 (hT 14 rfl rfl) (wrap64_in (by omega) (by omega)) ⟨Ext.refl _, rfl⟩
 exact Ask.plain rfl rfl fun aq wq hNq hO hR hT => does_assign (V := Value.int .u64 (((x.toNat : Nat) : Int))) (hT 15 rfl rfl) ⟨Ext.refl _, rfl⟩
 intro a4 wd4 hN_4 hD_4 hO hR hA hU
 obtain ⟨_, _, t6, _⟩ := hA
 have hE_4 := hE_3.trans hR
 have s5_4 := (hO 5 rfl).trans s5_3
 have s6_4 : get a4 6 = Value.int .u64 (((x.toNat : Nat) : Int)) := t6
 clear hE_3 hN_3 hD_3 s0_3 s5_3 s11_3
 refine tail_nil ?_
 refine wp_seq ?_
 refine wp_seq ?_
 refine region_lex [] [(7, Pr.ex (i64 ((0 : Nat) : Int)))] 1 hN_4 hD_4 (by kernel_rfl) (by kernel_rfl) ?_ ?_
 refine Asks.cons ?_ (Asks.zero _)
 exact Ask.plain rfl rfl fun aq wq hNq hO hR hT => does_assign (V := i64 ((0 : Nat) : Int)) rfl ⟨Ext.refl _, rfl⟩
 intro a5 wd5 hN_5 hD_5 hO hR hA hU
 obtain ⟨t7, _⟩ := hA
 have hE_5 := hE_4.trans hR
 have s5_5 := (hO 5 rfl).trans s5_4
 have s6_5 := (hO 6 rfl).trans s6_4
 have s7_5 : get a5 7 = i64 ((0 : Nat) : Int) := t7
 clear hE_4 hN_4 hD_4 s5_4 s6_4
 refine tail_nil ?_
 refine wp_block ?_
 refine loop_g (fun mz az wz => ∃ k : Nat, mz = n - k ∧ (az.tmps.size = 29) ∧ (az.defers = []) ∧ (get az 5 = i64 ((n : Nat) : Int)) ∧ (get az 6 = Value.int .u64 (((spun x.toNat k : Nat) : Int))) ∧ (get az 7 = i64 ((k : Nat) : Int)) ∧ (Ext w0 wz) ∧ (k ≤ n)) ?_ ?_
 exact ⟨_, 0, rfl, hN_5, hD_5, s5_5, (by rw [spun_zero hx]; exact s6_5), s7_5, hE_5, Nat.zero_le _⟩
 rintro mz a6 wd6 ⟨k, rfl, hN_6, hD_6, s5_6, s6_6, s7_6, hE_6, hk⟩
 refine wp_seq ?_
 refine wp_seq ?_
 refine region_lex [] [(16, Pr.ex (i64 ((k : Nat) : Int))), (17, Pr.ex (i64 ((n : Nat) : Int))), (18, Pr.ex (Value.bool (decide (((k : Nat) : Int) < ((n : Nat) : Int)))))] 3 hN_6 hD_6 (by kernel_rfl) (by kernel_rfl) ?_ ?_
 refine Asks.cons ?_ (Asks.cons ?_ (Asks.cons ?_ (Asks.zero _)))
 exact Ask.plain rfl rfl fun aq wq hNq hO hR hT => does_move (V := i64 ((k : Nat) : Int)) ((hO 7 rfl).trans s7_6) ⟨Ext.refl _, rfl⟩
 exact Ask.plain rfl rfl fun aq wq hNq hO hR hT => does_move (V := i64 ((n : Nat) : Int)) ((hO 5 rfl).trans s5_6) ⟨Ext.refl _, rfl⟩
 exact Ask.plain rfl rfl fun aq wq hNq hO hR hT => does_lss (a := ((k : Nat) : Int)) (b := ((n : Nat) : Int)) (hT 16 rfl rfl) (hT 17 rfl rfl) ⟨Ext.refl _, rfl⟩
 intro a7 wd7 hN_7 hD_7 hO hR hA hU
 obtain ⟨_, _, t18, _⟩ := hA
 have hE_7 := hE_6.trans hR
 have s5_7 := (hO 5 rfl).trans s5_6
 have s6_7 := (hO 6 rfl).trans s6_6
 have s7_7 := (hO 7 rfl).trans s7_6
 have s18_7 : get a7 18 = Value.bool (decide (((k : Nat) : Int) < ((n : Nat) : Int))) := t18
 clear hE_6 hN_6 hD_6 s5_6 s6_6 s7_6
 refine tail_nil ?_
 refine wp_if (B := decide (((k : Nat) : Int) < ((n : Nat) : Int))) s18_7 (fun hc1 => ?_) (fun hc1 => ?_)
 have hc1 := of_decide_eq_true hc1
 refine wp_skip ?_
 refine wp_seq ?_
 refine wp_block ?_
 refine region_lex [] [(21, Pr.ex (Value.int .u64 (((spun x.toNat k : Nat) : Int)))), (22, Pr.ex (Value.int .u64 (((2 * spun x.toNat k : Nat) : Int)))), (23, Pr.ex (Value.int .u64 (((2 * spun x.toNat k % 4294967296 : Nat) : Int)))), (24, Pr.ex (Value.int .u64 (((spun x.toNat k : Nat) : Int)))), (25, Pr.ex (Value.int .u64 (((spun x.toNat k / 2147483648 : Nat) : Int)))), (26, Pr.ex (Value.int .u64 (((spun x.toNat (k + 1) : Nat) : Int))))] 6 hN_7 hD_7 (by kernel_rfl) (by kernel_rfl) ?_ ?_
 refine Asks.cons ?_ (Asks.cons ?_ (Asks.cons ?_ (Asks.cons ?_ (Asks.cons ?_ (Asks.cons ?_ (Asks.zero _))))))
 exact Ask.plain rfl rfl fun aq wq hNq hO hR hT => does_move (V := Value.int .u64 (((spun x.toNat k : Nat) : Int))) ((hO 6 rfl).trans s6_7) ⟨Ext.refl _, rfl⟩
 exact Ask.plain rfl rfl fun aq wq hNq hO hR hT => by
  have hp := spun_lt (n := k) hx
  exact does_kmul (r := ((2 * spun x.toNat k : Nat) : Int)) rfl (hT 21 rfl rfl) (by rw [wrap64_in (by omega) (by omega)]; omega) ⟨Ext.refl _, rfl⟩
 exact Ask.plain rfl rfl fun aq wq hNq hO hR hT => does_rem (r := ((2 * spun x.toNat k % 4294967296 : Nat) : Int)) (hT 22 rfl rfl) rfl (by omega) (by decide) (by omega) ⟨Ext.refl _, rfl⟩
 exact Ask.plain rfl rfl fun aq wq hNq hO hR hT => does_move (V := Value.int .u64 (((spun x.toNat k : Nat) : Int))) ((hO 6 rfl).trans s6_7) ⟨Ext.refl _, rfl⟩
 exact Ask.plain rfl rfl fun aq wq hNq hO hR hT => does_kquo (r := ((spun x.toNat k / 2147483648 : Nat) : Int)) (hT 24 rfl rfl) rfl (by omega) (by omega) (by omega) (by have := spun_lt (n := k) hx; exact wrap64_in (by omega) (by omega)) ⟨Ext.refl _, rfl⟩
 exact Ask.plain rfl rfl fun aq wq hNq hO hR hT => does_kadd (r := ((spun x.toNat (k + 1) : Nat) : Int)) (hT 23 rfl rfl) (hT 25 rfl rfl) (by have h1 := spun_step (n := k) hx (by omega); have h2 := spun_lt (n := k + 1) hx; rw [wrap64_in (by omega) (by omega)]; omega) ⟨Ext.refl _, rfl⟩
 intro a8 wd8 hN_8 hD_8 hO hR hA hU
 obtain ⟨_, _, _, _, _, t26, _⟩ := hA
 have hE_8 := hE_7.trans hR
 have s5_8 := (hO 5 rfl).trans s5_7
 have s6_8 := (hO 6 rfl).trans s6_7
 have s7_8 := (hO 7 rfl).trans s7_7
 have s26_8 : get a8 26 = Value.int .u64 (((spun x.toNat (k + 1) : Nat) : Int)) := t26
 clear hE_7 hN_7 hD_7 s5_7 s6_7 s7_7 s18_7
 refine tail_put rfl rfl hN_8 hD_8 (by decide) (does_assign (V := Value.int .u64 (((spun x.toNat (k + 1) : Nat) : Int))) s26_8 (fun a9 hN_9 hD_9 hv hO => ?_))
 have s6_9 := hv
 have s5_9 := (hO 5 rfl).trans s5_8
 have s7_9 := (hO 7 rfl).trans s7_8
 clear hO hv hN_8 hD_8 s5_8 s7_8 s26_8 s6_8
 refine tail_nil ?_
 refine region_lex [] [(19, Pr.ex (i64 ((k : Nat) : Int))), (20, Pr.ex (i64 ((k + 1 : Nat) : Int)))] 2 hN_9 hD_9 (by kernel_rfl) (by kernel_rfl) ?_ ?_
 refine Asks.cons ?_ (Asks.cons ?_ (Asks.zero _))
 exact Ask.plain rfl rfl fun aq wq hNq hO hR hT => does_move (V := i64 ((k : Nat) : Int)) ((hO 7 rfl).trans s7_9) ⟨Ext.refl _, rfl⟩
 exact Ask.plain rfl rfl fun aq wq hNq hO hR hT => does_add (a := ((k : Nat) : Int)) (b := ((1 : Nat) : Int)) (r := ((k + 1 : Nat) : Int)) (hT 19 rfl rfl) rfl (by omega) (by omega) (by omega) ⟨Ext.refl _, rfl⟩
 intro a10 wd10 hN_10 hD_10 hO hR hA hU
 obtain ⟨_, t20, _⟩ := hA
 have hE_10 := hE_8.trans hR
 have s5_10 := (hO 5 rfl).trans s5_9
 have s6_10 := (hO 6 rfl).trans s6_9
 have s7_10 := (hO 7 rfl).trans s7_9
 have s20_10 : get a10 20 = i64 ((k + 1 : Nat) : Int) := t20
 clear hE_8 hN_9 hD_9 s5_9 s6_9 s7_9
 refine tail_put rfl rfl hN_10 hD_10 (by decide) (does_assign (V := i64 ((k + 1 : Nat) : Int)) s20_10 (fun a11 hN_11 hD_11 hv hO => ?_))
 have s7_11 := hv
 have s5_11 := (hO 5 rfl).trans s5_10
 have s6_11 := (hO 6 rfl).trans s6_10
 clear hO hv hN_10 hD_10 s5_10 s6_10 s20_10 s7_10
 refine tail_nil ?_
 exact ⟨_, by omega, k + 1, rfl, hN_11, hD_11, s5_11, s6_11, s7_11, hE_10, by omega⟩
 have hc1 := of_decide_eq_false hc1
 refine wp_exit ?_
 refine wp_seq ?_
 refine region_lex [] [(27, Pr.ex (Value.int .u64 (((spun x.toNat k : Nat) : Int)))), (28, Pr.ex (w32 (UInt32.ofNat (spun x.toNat k)))), (4, Pr.ex (w32 (UInt32.ofNat (spun x.toNat k))))] 3 hN_7 hD_7 (by kernel_rfl) (by kernel_rfl) ?_ ?_
 refine Asks.cons ?_ (Asks.cons ?_ (Asks.cons ?_ (Asks.zero _)))
 exact Ask.plain rfl rfl fun aq wq hNq hO hR hT => does_move (V := Value.int .u64 (((spun x.toNat k : Nat) : Int))) ((hO 6 rfl).trans s6_7) ⟨Ext.refl _, rfl⟩
 exact Ask.plain rfl rfl fun aq wq hNq hO hR hT => does_conv ⟨_, Tryd.underlying80⟩ Tryd.underlying22 (hT 27 rfl rfl) (wrap_u32 _) ⟨Ext.refl _, rfl⟩
 exact Ask.plain rfl rfl fun aq wq hNq hO hR hT => does_assign (V := w32 (UInt32.ofNat (spun x.toNat k))) (hT 28 rfl rfl) ⟨Ext.refl _, rfl⟩
 intro a12 wd12 hN_12 hD_12 hO hR hA hU
 obtain ⟨_, _, t4, _⟩ := hA
 have hE_12 := hE_7.trans hR
 have s4_12 : get a12 4 = w32 (UInt32.ofNat (spun x.toNat k)) := t4
 clear hE_7 hN_7 hD_7 s5_7 s6_7 s7_7 s18_7
 refine tail_nil ?_
 refine wp_ret ?_
 refine res_one (V := w32 (UInt32.ofNat (spun x.toNat k))) rfl hD_12 s4_12 ?_
 have hkn : k = n := by omega
 subst hkn
 exact ⟨rfl, hE_12⟩

theorem turnsR  (w0 : World) :
    Gives Tryd.prog 74 #[] w0 (Pr.ex (Value.agg #[i64 7, i64 9, i64 13, i64 18])) := by
 refine enter (N := 2) Tryd.func74 rfl rfl ?_
 intro a0 hN_0 hD_0 hA
 clear hA
 have hE_0 : Ext w0 w0 := Ext.refl w0
 refine wp_seq ?_
 refine region_lex [0] [(0, Pr.box' w0.heap.size 104 [i64 ((0 : Nat) : Int), i64 ((0 : Nat) : Int), i64 ((0 : Nat) : Int), i64 ((0 : Nat) : Int)])] 1 hN_0 hD_0 (by kernel_rfl) (by kernel_rfl) ?_ ?_
 refine Asks.cons ?_ (Asks.zero _)
 refine Ask.fresh rfl rfl ?_
 intro aq wq hNq hO hR hT
 exact does_alloc zero_104 (fun b w2 he hlo hb => ⟨he, ⟨b, rfl, Nat.le_trans hR.size' hlo, hb⟩, ⟨b, rfl, hlo, hb.lt⟩⟩)
 intro a1 wd1 hN_1 hD_1 hO hR hA hU
 obtain ⟨t0, _⟩ := hA
 have hE_1 := hE_0.trans hR
 obtain ⟨b0, s0_1, lo_b0, hbb0_1⟩ := t0
 have fr_b0 : w0.heap.size ≤ b0 := Nat.le_trans hE_0.size' lo_b0
 clear hE_0 hN_0 hD_0
 refine tail_nil ?_
 refine wp_seq ?_
 refine region_lex [] [(1, Pr.ex (Value.agg #[i64 ((7 : Nat) : Int), i64 ((9 : Nat) : Int), i64 ((13 : Nat) : Int), i64 ((18 : Nat) : Int)]))] 1 hN_1 hD_1 (by kernel_rfl) (by kernel_rfl) ?_ ?_
 refine Asks.cons ?_ (Asks.zero _)
 exact Ask.plain rfl rfl fun aq wq hNq hO hR hT => does_build (vs := #[(0, i64 ((7 : Nat) : Int)), (1, i64 ((9 : Nat) : Int)), (2, i64 ((13 : Nat) : Int)), (3, i64 ((18 : Nat) : Int))]) (V := Value.agg #[i64 ((7 : Nat) : Int), i64 ((9 : Nat) : Int), i64 ((13 : Nat) : Int), i64 ((18 : Nat) : Int)]) (parts4 rfl rfl rfl rfl) (by kernel_rfl) ⟨Ext.refl _, rfl⟩
 intro a2 wd2 hN_2 hD_2 hO hR hA hU
 obtain ⟨t1, _⟩ := hA
 have hE_2 := hE_1.trans hR
 have s0_2 := (hO 0 rfl).trans s0_1
 have hbb0_2 := hbb0_1.ext' hR
 have s1_2 : get a2 1 = Value.agg #[i64 ((7 : Nat) : Int), i64 ((9 : Nat) : Int), i64 ((13 : Nat) : Int), i64 ((18 : Nat) : Int)] := t1
 clear hE_1 hN_1 hD_1 s0_1 hbb0_1
 refine tail_none rfl rfl (does_storeD (o := 0) (n := 4) (cs' := [i64 ((7 : Nat) : Int), i64 ((9 : Nat) : Int), i64 ((13 : Nat) : Int), i64 ((18 : Nat) : Int)]) (V := Value.agg #[i64 ((7 : Nat) : Int), i64 ((9 : Nat) : Int), i64 ((13 : Nat) : Int), i64 ((18 : Nat) : Int)]) s0_2 s1_2 hbb0_2 (Nat.le_of_ble_eq_true rfl) rfl siz_104 rfl rfl (fun wd3 hX hz hbb0_3 => ?_))
 have hE_3 := hE_2.since hX (fun k e => e ▸ fr_b0)
 clear hX hz hE_2 hbb0_2
 refine tail_nil ?_
 refine wp_ret ?_
 refine res_one (V := Value.agg #[i64 ((7 : Nat) : Int), i64 ((9 : Nat) : Int), i64 ((13 : Nat) : Int), i64 ((18 : Nat) : Int)]) rfl hD_2 (ResIs.cell s0_2 hbb0_3 row_104 rfl rfl) ?_
 exact ⟨rfl, hE_3⟩

end Go.Proofs.YtaeohnkfmachfabDoor
