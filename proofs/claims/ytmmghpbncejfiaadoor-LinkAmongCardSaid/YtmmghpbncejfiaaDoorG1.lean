/- The walks of functions of the program: printed. -/
import Derived.Test.YtmmghpbncejfiaaDoorF0
set_option maxRecDepth 100000
namespace Go.Proofs.YtmmghpbncejfiaaDoor
open Go Go.RowKit Sk Sd
theorem rotl (x : UInt32) (n : Nat) (w0 : World) (hn : n < 32) :
    Gives Tryd.prog 91 #[w32 (x), i64 (n : Int)] w0 (Pr.ex (w32 (rot x n))) := by
 refine enter (N := 17) Tryd.func91 rfl rfl ?_
 intro a0 N0 D0 hA
 have s0_0 : get a0 0 = w32 (x) := hA 0 _ rfl
 have s1_0 : get a0 1 = i64 (n : Int) := hA 1 _ rfl
 clear hA
 have E0 : Ext w0 w0 := Ext.refl w0
 refine wp_seq ?_
 refine Rl [] [(4, Pr.ex (w32 (0)))] 1 N0 D0 ?_ ?_
 refine Ac ?_ (Az _)
 exact Ap fun aq wq _ hO hR hT => does_assign (V := w32 (0)) rfl eR
 intro a1 wd1 N1 D1 hO hR hA hU
 obtain ⟨_, _⟩ := hA
 have E1 := E0.trans hR
 have s0_1 := oT hO s0_0 rfl
 have s1_1 := oT hO s1_0 rfl
 clear E0 N0 D0 s0_0 s1_0
 refine tail_nil ?_
 refine wp_seq ?_
 refine Rl [] [(6, Pr.ex (i64 (n : Int))), (7, Pr.ex (w64 (UInt64.ofNat n))), (8, Pr.ex (Value.int .u64 ((n : Int)))), (5, Pr.ex (Value.int .u64 ((n : Int))))] 4 N1 D1 ?_ ?_
 refine Ac ?_ (Ac ?_ (Ac ?_ (Ac ?_ (Az _))))
 exact Am s1_1 rfl fun _ => rfl
 exact Ap fun aq wq _ hO hR hT => does_conv ⟨_, Tryd.underlying3⟩ Tryd.underlying69 (hT 6 rfl rfl) (wrap_u64 _) eR
 exact Ap fun aq wq _ hO hR hT => does_band (hT 7 rfl rfl) rfl (and31 hn) eR
 exact Ap fun aq wq _ hO hR hT => does_assign (V := Value.int .u64 ((n : Int))) (hT 8 rfl rfl) eR
 intro a2 wd2 N2 D2 hO hR hA hU
 obtain ⟨_, _, _, t5, _⟩ := hA
 have E2 := E1.trans hR
 have s0_2 := oT hO s0_1 rfl
 have s5_2 : get a2 5 = Value.int .u64 ((n : Int)) := t5
 clear E1 N1 D1 s0_1 s1_1
 refine tail_nil ?_
 refine wp_seq ?_
 refine Rl [] [(9, Pr.ex (w32 (x))), (10, Pr.ex (Value.int .u64 ((n : Int)))), (11, Pr.ex (w32 (UInt32.ofNat (x.toNat * 2 ^ n)))), (12, Pr.ex (w32 (x))), (13, Pr.ex (Value.int .u64 ((n : Int)))), (14, Pr.ex (Value.int .u64 (((32 - n : Nat) : Int)))), (15, Pr.ex (w32 (UInt32.ofNat (x.toNat / 2 ^ (32 - n))))), (16, Pr.ex (w32 (UInt32.ofNat (x.toNat * 2 ^ n) ||| UInt32.ofNat (x.toNat / 2 ^ (32 - n))))), (4, Pr.ex (w32 (UInt32.ofNat (x.toNat * 2 ^ n) ||| UInt32.ofNat (x.toNat / 2 ^ (32 - n)))))] 9 N2 D2 ?_ ?_
 refine Ac ?_ (Ac ?_ (Ac ?_ (Ac ?_ (Ac ?_ (Ac ?_ (Ac ?_ (Ac ?_ (Ac ?_ (Az _)))))))))
 exact Am s0_2 rfl fun _ => rfl
 exact Am s5_2 rfl fun _ => rfl
 exact Ap fun aq wq _ hO hR hT => does_shl32 (b := n) (hT 9 rfl rfl) (hT 10 rfl rfl) (by omega) eR
 exact Am s0_2 rfl fun _ => rfl
 exact Am s5_2 rfl fun _ => rfl
 exact Ap fun aq wq _ hO hR hT => does_ksub (r := ((32 - n : Nat) : Int)) rfl (hT 13 rfl rfl) (by rw [wrap64_in (by omega) (by omega)]; omega) eR
 exact Ap fun aq wq _ hO hR hT => does_shr32 (b := 32 - n) (hT 12 rfl rfl) (hT 14 rfl rfl) (by omega) eR
 exact Ap fun aq wq _ hO hR hT => does_or32 (hT 11 rfl rfl) (hT 15 rfl rfl) eR
 exact Ap fun aq wq _ hO hR hT => does_assign (V := w32 (UInt32.ofNat (x.toNat * 2 ^ n) ||| UInt32.ofNat (x.toNat / 2 ^ (32 - n)))) (hT 16 rfl rfl) eR
 intro a3 wd3 N3 D3 hO hR hA hU
 obtain ⟨_, _, _, _, _, _, _, _, t4, _⟩ := hA
 have E3 := E2.trans hR
 have s4_3 : get a3 4 = w32 (UInt32.ofNat (x.toNat * 2 ^ n) ||| UInt32.ofNat (x.toNat / 2 ^ (32 - n))) := t4
 clear E2 N2 D2 s0_2 s5_2
 refine tail_nil ?_
 refine wp_ret ?_
 refine res_one (V := w32 (UInt32.ofNat (x.toNat * 2 ^ n) ||| UInt32.ofNat (x.toNat / 2 ^ (32 - n)))) rfl D3 s4_3 ?_
 exact ⟨congrArg w32 (rot_or x hn), E3⟩

theorem turn (x : UInt32) (n : Nat) (w0 : World) (hn : n < 32) :
    Gives Tryd.prog 81 #[w32 (x), i64 (n : Int)] w0 (Pr.ex (w32 (rot x n))) := by
 refine enter (N := 9) Tryd.func81 rfl rfl ?_
 intro a0 N0 D0 hA
 have s0_0 : get a0 0 = w32 (x) := hA 0 _ rfl
 have s1_0 : get a0 1 = i64 (n : Int) := hA 1 _ rfl
 clear hA
 have E0 : Ext w0 w0 := Ext.refl w0
 refine wp_seq ?_
 refine Rl [] [(4, Pr.ex (w32 (0)))] 1 N0 D0 ?_ ?_
 refine Ac ?_ (Az _)
 exact Ap fun aq wq _ hO hR hT => does_assign (V := w32 (0)) rfl eR
 intro a1 wd1 N1 D1 hO hR hA hU
 obtain ⟨_, _⟩ := hA
 have E1 := E0.trans hR
 have s0_1 := oT hO s0_0 rfl
 have s1_1 := oT hO s1_0 rfl
 clear E0 N0 D0 s0_0 s1_0
 refine tail_nil ?_
 refine wp_seq ?_
 refine Rl [] [(5, Pr.ex (w32 (x))), (6, Pr.ex (i64 (n : Int))), (7, Pr.ex (i64 (n : Int))), (8, Pr.ex (w32 (rot x n))), (4, Pr.ex (w32 (rot x n)))] 5 N1 D1 ?_ ?_
 refine Ac ?_ (Ac ?_ (Ac ?_ (Ac ?_ (Ac ?_ (Az _)))))
 exact Am s0_1 rfl fun _ => rfl
 exact Am s1_1 rfl fun _ => rfl
 exact Ap fun aq wq _ hO hR hT => does_rem (k := .i64) (a := (n : Int)) (b := ((32 : Nat) : Int)) (r := (n : Int)) (hT 6 rfl rfl) rfl (by omega) (by omega) (by omega) eR
 exact Ap fun aq wq _ hO hR hT => does_ret (vs := #[w32 (x), i64 (n : Int)]) call_91 (args2 (hT 5 rfl rfl) (hT 7 rfl rfl)) rfl ((rotl (x) (n) wq hn).mono fun v w2 h => ⟨h.2, h.1⟩)
 exact Ap fun aq wq _ hO hR hT => does_assign (V := w32 (rot x n)) (hT 8 rfl rfl) eR
 intro a2 wd2 N2 D2 hO hR hA hU
 obtain ⟨_, _, _, _, t4, _⟩ := hA
 have E2 := E1.trans hR
 have s4_2 : get a2 4 = w32 (rot x n) := t4
 clear E1 N1 D1 s0_1 s1_1
 refine tail_nil ?_
 refine wp_ret ?_
 refine res_one (V := w32 (rot x n)) rfl D2 s4_2 ?_
 exact ⟨rfl, E2⟩

theorem turnR (x : UInt32) (n : Nat) (w0 : World) (hn : n < 32) :
    Gives Tryd.prog 88 #[w32 (x), i64 (n : Int)] w0 (Pr.ex (w32 (rot x n))) := by
 refine enter (N := 29) Tryd.func88 rfl rfl ?_
 intro a0 N0 D0 hA
 have s0_0 : get a0 0 = w32 (x) := hA 0 _ rfl
 have s1_0 : get a0 1 = i64 (n : Int) := hA 1 _ rfl
 clear hA
 have E0 : Ext w0 w0 := Ext.refl w0
 have hx := x.toNat_lt
 refine wp_seq ?_
 refine Rl [] [(4, Pr.ex (w32 (0)))] 1 N0 D0 ?_ ?_
 refine Ac ?_ (Az _)
 exact Ap fun aq wq _ hO hR hT => does_assign (V := w32 (0)) rfl eR
 intro a1 wd1 N1 D1 hO hR hA hU
 obtain ⟨_, _⟩ := hA
 have E1 := E0.trans hR
 have s0_1 := oT hO s0_0 rfl
 have s1_1 := oT hO s1_0 rfl
 clear E0 N0 D0 s0_0 s1_0
 refine tail_nil ?_
 refine wp_seq ?_
 refine Rl [] [(8, Pr.ex (i64 (n : Int))), (9, Pr.ex (i64 (n : Int))), (5, Pr.ex (i64 (n : Int)))] 3 N1 D1 ?_ ?_
 refine Ac ?_ (Ac ?_ (Ac ?_ (Az _)))
 exact Am s1_1 rfl fun _ => rfl
 exact Ap fun aq wq _ hO hR hT => does_rem (k := .i64) (a := (n : Int)) (b := ((32 : Nat) : Int)) (r := (n : Int)) (hT 8 rfl rfl) rfl (by omega) (by omega) (by omega) eR
 exact Ap fun aq wq _ hO hR hT => does_assign (V := i64 (n : Int)) (hT 9 rfl rfl) eR
 intro a2 wd2 N2 D2 hO hR hA hU
 obtain ⟨_, _, t5, _⟩ := hA
 have E2 := E1.trans hR
 have s0_2 := oT hO s0_1 rfl
 have s5_2 : get a2 5 = i64 (n : Int) := t5
 clear E1 N1 D1 s0_1 s1_1
 refine tail_nil ?_
 refine wp_seq ?_
 refine wp_seq ?_
 refine Rl [] [(10, Pr.ex (i64 (n : Int))), (11, Pr.ex (Value.bool (decide ((n : Int) < ((0 : Nat) : Int)))))] 2 N2 D2 ?_ ?_
 refine Ac ?_ (Ac ?_ (Az _))
 exact Am s5_2 rfl fun _ => rfl
 exact Ap fun aq wq _ hO hR hT => does_lss (a := (n : Int)) (b := ((0 : Nat) : Int)) (hT 10 rfl rfl) rfl eR
 intro a3 wd3 N3 D3 hO hR hA hU
 obtain ⟨_, t11, _⟩ := hA
 have E3 := E2.trans hR
 have s0_3 := oT hO s0_2 rfl
 have s5_3 := oT hO s5_2 rfl
 have s11_3 : get a3 11 = Value.bool (decide ((n : Int) < ((0 : Nat) : Int))) := t11
 clear E2 N2 D2 s0_2 s5_2
 refine tail_nil ?_
 refine wp_if (B := decide ((n : Int) < ((0 : Nat) : Int))) s11_3 (fun hc0 => ?_) (fun hc0 => ?_)
 have hc0 := of_decide_eq_true hc0
 omega
 have hc0 := of_decide_eq_false hc0
 refine wp_skip ?_
 refine wp_seq ?_
 refine Rl [] [(14, Pr.ex (w32 (x))), (15, Pr.ex (Value.int .u64 ((x.toNat : Int)))), (6, Pr.ex (Value.int .u64 ((x.toNat : Int))))] 3 N3 D3 ?_ ?_
 refine Ac ?_ (Ac ?_ (Ac ?_ (Az _)))
 exact Am s0_3 rfl fun _ => rfl
 exact Ap fun aq wq _ hO hR hT => does_conv ⟨_, Tryd.underlying22⟩ Tryd.underlying71 (hT 14 rfl rfl) (wrap64_in (by omega) (by omega)) eR
 exact Ap fun aq wq _ hO hR hT => does_assign (V := Value.int .u64 ((x.toNat : Int))) (hT 15 rfl rfl) eR
 intro a4 wd4 N4 D4 hO hR hA hU
 obtain ⟨_, _, t6, _⟩ := hA
 have E4 := E3.trans hR
 have s5_4 := oT hO s5_3 rfl
 have s6_4 : get a4 6 = Value.int .u64 ((x.toNat : Int)) := t6
 clear E3 N3 D3 s0_3 s5_3 s11_3
 refine tail_nil ?_
 refine wp_seq ?_
 refine wp_seq ?_
 refine Rl [] [(7, Pr.ex (i64 ((0 : Nat) : Int)))] 1 N4 D4 ?_ ?_
 refine Ac ?_ (Az _)
 exact Ap fun aq wq _ hO hR hT => does_assign (V := i64 ((0 : Nat) : Int)) rfl eR
 intro a5 wd5 N5 D5 hO hR hA hU
 obtain ⟨t7, _⟩ := hA
 have E5 := E4.trans hR
 have s5_5 := oT hO s5_4 rfl
 have s6_5 := oT hO s6_4 rfl
 have s7_5 : get a5 7 = i64 ((0 : Nat) : Int) := t7
 clear E4 N4 D4 s5_4 s6_4
 refine tail_nil ?_
 refine wp_block ?_
 refine loop_g (fun mz az wz => ∃ k : Nat, mz = n - k ∧ (az.tmps.size = 29) ∧ (az.defers = []) ∧ (get az 5 = i64 (n : Int)) ∧ (get az 6 = Value.int .u64 (((spun x.toNat k : Nat) : Int))) ∧ (get az 7 = i64 (k : Int)) ∧ (Ext w0 wz) ∧ (k ≤ n)) ?_ ?_
 exact ⟨_, 0, rfl, N5, D5, s5_5, (by rw [spun_zero hx]; exact s6_5), s7_5, E5, Nat.zero_le _⟩
 rintro mz a6 wd6 ⟨k, rfl, N6, D6, s5_6, s6_6, s7_6, E6, hk⟩
 refine wp_seq ?_
 refine wp_seq ?_
 refine Rl [] [(16, Pr.ex (i64 (k : Int))), (17, Pr.ex (i64 (n : Int))), (18, Pr.ex (Value.bool (decide ((k : Int) < (n : Int)))))] 3 N6 D6 ?_ ?_
 refine Ac ?_ (Ac ?_ (Ac ?_ (Az _)))
 exact Am s7_6 rfl fun _ => rfl
 exact Am s5_6 rfl fun _ => rfl
 exact Ap fun aq wq _ hO hR hT => does_lss (a := (k : Int)) (b := (n : Int)) (hT 16 rfl rfl) (hT 17 rfl rfl) eR
 intro a7 wd7 N7 D7 hO hR hA hU
 obtain ⟨_, _, t18, _⟩ := hA
 have E7 := E6.trans hR
 have s5_7 := oT hO s5_6 rfl
 have s6_7 := oT hO s6_6 rfl
 have s7_7 := oT hO s7_6 rfl
 have s18_7 : get a7 18 = Value.bool (decide ((k : Int) < (n : Int))) := t18
 clear E6 N6 D6 s5_6 s6_6 s7_6
 refine tail_nil ?_
 refine wp_if (B := decide ((k : Int) < (n : Int))) s18_7 (fun hc1 => ?_) (fun hc1 => ?_)
 have hc1 := of_decide_eq_true hc1
 refine wp_skip ?_
 refine wp_seq ?_
 refine wp_block ?_
 refine Rl [] [(21, Pr.ex (Value.int .u64 (((spun x.toNat k : Nat) : Int)))), (22, Pr.ex (Value.int .u64 (((2 * spun x.toNat k : Nat) : Int)))), (23, Pr.ex (Value.int .u64 (((2 * spun x.toNat k % 4294967296 : Nat) : Int)))), (24, Pr.ex (Value.int .u64 (((spun x.toNat k : Nat) : Int)))), (25, Pr.ex (Value.int .u64 (((spun x.toNat k / 2147483648 : Nat) : Int)))), (26, Pr.ex (Value.int .u64 (((spun x.toNat (k + 1) : Nat) : Int))))] 6 N7 D7 ?_ ?_
 refine Ac ?_ (Ac ?_ (Ac ?_ (Ac ?_ (Ac ?_ (Ac ?_ (Az _))))))
 exact Am s6_7 rfl fun _ => rfl
 exact Ap fun aq wq _ hO hR hT => by
  have hp := spun_lt (n := k) hx
  exact does_kmul (r := ((2 * spun x.toNat k : Nat) : Int)) rfl (hT 21 rfl rfl) (by rw [wrap64_in (by omega) (by omega)]; omega) ⟨Ext.refl _, rfl⟩
 exact Ap fun aq wq _ hO hR hT => does_rem (r := ((2 * spun x.toNat k % 4294967296 : Nat) : Int)) (hT 22 rfl rfl) rfl (by omega) (by decide) (by omega) eR
 exact Am s6_7 rfl fun _ => rfl
 exact Ap fun aq wq _ hO hR hT => does_kquo (r := ((spun x.toNat k / 2147483648 : Nat) : Int)) (hT 24 rfl rfl) rfl (by omega) (by omega) (by omega) (by have := spun_lt (n := k) hx; exact wrap64_in (by omega) (by omega)) eR
 exact Ap fun aq wq _ hO hR hT => does_kadd (r := ((spun x.toNat (k + 1) : Nat) : Int)) (hT 23 rfl rfl) (hT 25 rfl rfl) (by have h1 := spun_step (n := k) hx (by omega); have h2 := spun_lt (n := k + 1) hx; rw [wrap64_in (by omega) (by omega)]; omega) eR
 intro a8 wd8 N8 D8 hO hR hA hU
 obtain ⟨_, _, _, _, _, t26, _⟩ := hA
 have E8 := E7.trans hR
 have s5_8 := oT hO s5_7 rfl
 have s6_8 := oT hO s6_7 rfl
 have s7_8 := oT hO s7_7 rfl
 have s26_8 : get a8 26 = Value.int .u64 (((spun x.toNat (k + 1) : Nat) : Int)) := t26
 clear E7 N7 D7 s5_7 s6_7 s7_7 s18_7
 refine tail_put rfl rfl N8 D8 (by decide) (does_assign (V := Value.int .u64 (((spun x.toNat (k + 1) : Nat) : Int))) s26_8 (fun a9 N9 D9 hv hO => ?_))
 have s6_9 := hv
 have s5_9 := oT hO s5_8 rfl
 have s7_9 := oT hO s7_8 rfl
 clear hO hv N8 D8 s5_8 s7_8 s26_8 s6_8
 refine tail_nil ?_
 refine Rl [] [(19, Pr.ex (i64 (k : Int))), (20, Pr.ex (i64 ((k + 1 : Nat) : Int)))] 2 N9 D9 ?_ ?_
 refine Ac ?_ (Ac ?_ (Az _))
 exact Am s7_9 rfl fun _ => rfl
 exact Ap fun aq wq _ hO hR hT => does_add (a := (k : Int)) (b := ((1 : Nat) : Int)) (r := ((k + 1 : Nat) : Int)) (hT 19 rfl rfl) rfl (by omega) (by omega) (by omega) eR
 intro a10 wd10 N10 D10 hO hR hA hU
 obtain ⟨_, t20, _⟩ := hA
 have E10 := E8.trans hR
 have s5_10 := oT hO s5_9 rfl
 have s6_10 := oT hO s6_9 rfl
 have s7_10 := oT hO s7_9 rfl
 have s20_10 : get a10 20 = i64 ((k + 1 : Nat) : Int) := t20
 clear E8 N9 D9 s5_9 s6_9 s7_9
 refine tail_put rfl rfl N10 D10 (by decide) (does_assign (V := i64 ((k + 1 : Nat) : Int)) s20_10 (fun a11 N11 D11 hv hO => ?_))
 have s7_11 := hv
 have s5_11 := oT hO s5_10 rfl
 have s6_11 := oT hO s6_10 rfl
 clear hO hv N10 D10 s5_10 s6_10 s20_10 s7_10
 refine tail_nil ?_
 exact ⟨_, by omega, k + 1, rfl, N11, D11, s5_11, s6_11, s7_11, E10, by omega⟩
 have hc1 := of_decide_eq_false hc1
 refine wp_exit ?_
 refine wp_seq ?_
 refine Rl [] [(27, Pr.ex (Value.int .u64 (((spun x.toNat k : Nat) : Int)))), (28, Pr.ex (w32 (UInt32.ofNat (spun x.toNat k)))), (4, Pr.ex (w32 (UInt32.ofNat (spun x.toNat k))))] 3 N7 D7 ?_ ?_
 refine Ac ?_ (Ac ?_ (Ac ?_ (Az _)))
 exact Am s6_7 rfl fun _ => rfl
 exact Ap fun aq wq _ hO hR hT => does_conv ⟨_, Tryd.underlying71⟩ Tryd.underlying22 (hT 27 rfl rfl) (wrap_u32 _) eR
 exact Ap fun aq wq _ hO hR hT => does_assign (V := w32 (UInt32.ofNat (spun x.toNat k))) (hT 28 rfl rfl) eR
 intro a12 wd12 N12 D12 hO hR hA hU
 obtain ⟨_, _, t4, _⟩ := hA
 have E12 := E7.trans hR
 have s4_12 : get a12 4 = w32 (UInt32.ofNat (spun x.toNat k)) := t4
 clear E7 N7 D7 s5_7 s6_7 s7_7 s18_7
 refine tail_nil ?_
 refine wp_ret ?_
 refine res_one (V := w32 (UInt32.ofNat (spun x.toNat k))) rfl D12 s4_12 ?_
 have hkn : k = n := by omega
 subst hkn
 exact ⟨rfl, E12⟩

theorem turnsR  (w0 : World) :
    Gives Tryd.prog 87 #[] w0 (Pr.ex (Value.agg #[i64 7, i64 9, i64 13, i64 18])) := by
 refine enter (N := 2) Tryd.func87 rfl rfl ?_
 intro a0 N0 D0 hA
 clear hA
 have E0 : Ext w0 w0 := Ext.refl w0
 refine wp_seq ?_
 refine Rl [0] [(0, Pr.box' w0.heap.size 113 [i64 ((0 : Nat) : Int), i64 ((0 : Nat) : Int), i64 ((0 : Nat) : Int), i64 ((0 : Nat) : Int)])] 1 N0 D0 ?_ ?_
 refine Ac ?_ (Az _)
 refine Ask.fresh rfl rfl ?_
 intro aq wq hNq hO hR hT
 exact does_alloc zero_113 (fun b w2 he hlo hb => ⟨he, ⟨b, rfl, Nat.le_trans hR.size' hlo, hb⟩, ⟨b, rfl, hlo, hb.lt⟩⟩)
 intro a1 wd1 N1 D1 hO hR hA hU
 obtain ⟨t0, _⟩ := hA
 have E1 := E0.trans hR
 obtain ⟨b0, s0_1, lo_b0, B0_1⟩ := t0
 have fr_b0 : w0.heap.size ≤ b0 := Nat.le_trans E0.size' lo_b0
 clear E0 N0 D0
 refine tail_nil ?_
 refine wp_seq ?_
 refine Rl [] [(1, Pr.ex (Value.agg #[i64 ((7 : Nat) : Int), i64 ((9 : Nat) : Int), i64 ((13 : Nat) : Int), i64 ((18 : Nat) : Int)]))] 1 N1 D1 ?_ ?_
 refine Ac ?_ (Az _)
 exact Ap fun aq wq _ hO hR hT => does_build (vs := #[(0, i64 ((7 : Nat) : Int)), (1, i64 ((9 : Nat) : Int)), (2, i64 ((13 : Nat) : Int)), (3, i64 ((18 : Nat) : Int))]) (V := Value.agg #[i64 ((7 : Nat) : Int), i64 ((9 : Nat) : Int), i64 ((13 : Nat) : Int), i64 ((18 : Nat) : Int)]) (parts4 rfl rfl rfl rfl) (by kernel_rfl) eR
 intro a2 wd2 N2 D2 hO hR hA hU
 obtain ⟨t1, _⟩ := hA
 have E2 := E1.trans hR
 have s0_2 := oT hO s0_1 rfl
 have B0_2 := B0_1.ext' hR
 have s1_2 : get a2 1 = Value.agg #[i64 ((7 : Nat) : Int), i64 ((9 : Nat) : Int), i64 ((13 : Nat) : Int), i64 ((18 : Nat) : Int)] := t1
 clear E1 N1 D1 s0_1 B0_1
 refine tail_none rfl rfl (does_storeD (o := 0) (n := 4) (cs' := [i64 ((7 : Nat) : Int), i64 ((9 : Nat) : Int), i64 ((13 : Nat) : Int), i64 ((18 : Nat) : Int)]) (V := Value.agg #[i64 ((7 : Nat) : Int), i64 ((9 : Nat) : Int), i64 ((13 : Nat) : Int), i64 ((18 : Nat) : Int)]) s0_2 s1_2 B0_2 (nB rfl) rfl siz_113 rfl rfl (fun wd3 hX hz B0_3 => ?_))
 have E3 := E2.since hX (fun k e => e ▸ fr_b0)
 clear hX hz E2 B0_2
 refine tail_nil ?_
 refine wp_ret ?_
 refine res_one (V := Value.agg #[i64 ((7 : Nat) : Int), i64 ((9 : Nat) : Int), i64 ((13 : Nat) : Int), i64 ((18 : Nat) : Int)]) rfl D2 (ResIs.cell s0_2 B0_3 row_113 rfl rfl) ?_
 exact ⟨rfl, E3⟩

end Go.Proofs.YtmmghpbncejfiaaDoor
