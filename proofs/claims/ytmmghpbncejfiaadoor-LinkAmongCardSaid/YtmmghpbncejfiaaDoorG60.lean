/- The walks of functions of the program: printed. -/
import Derived.Test.YtmmghpbncejfiaaDoorK
import Derived.Test.YtmmghpbncejfiaaDoorG3
import Derived.Test.YtmmghpbncejfiaaDoorF0
set_option maxRecDepth 100000
namespace Go.Proofs.YtmmghpbncejfiaaDoor
open Go Go.RowKit Sk Sd
theorem along_ (x : Dg) (n : Nat) (w0 : World) (hL : Laid w0) (hn : n ≤ 15) :
    Gives Tryd.prog 66 #[Dg.val (x), i64 (n : Int)] w0 (Pr.ex (Dg.val (walk x n))) := by
 refine enter (N := 13) Tryd.func66 rfl rfl ?_
 intro a0 N0 D0 hA
 have s0_0 : get a0 0 = Dg.val (x) := hA 0 _ rfl
 have s1_0 : get a0 1 = i64 (n : Int) := hA 1 _ rfl
 clear hA
 have E0 : Ext w0 w0 := Ext.refl w0
 refine wp_seq ?_
 refine Rl [2, 4] [(2, Pr.box' w0.heap.size 24 [w32 (x).a, w32 (x).b, w32 (x).c, w32 (x).d]), (4, Pr.box' w0.heap.size 24 [w32 (Dg.zero).a, w32 (Dg.zero).b, w32 (Dg.zero).c, w32 (Dg.zero).d])] 2 N0 D0 ?_ ?_
 refine Ac ?_ (Ac ?_ (Az _))
 refine Ask.fresh rfl rfl ?_
 intro aq wq hNq hO hR hT
 exact does_box (V := Dg.val (x)) (oT hO s0_0 rfl) (fun b w2 he hlo hb => ⟨he, ⟨b, rfl, Nat.le_trans hR.size' hlo, hb⟩, ⟨b, rfl, hlo, hb.lt⟩⟩)
 refine Ask.fresh rfl rfl ?_
 intro aq wq hNq hO hR hT
 exact does_alloc zero_24 (fun b w2 he hlo hb => ⟨he, ⟨b, rfl, Nat.le_trans hR.size' hlo, hb⟩, ⟨b, rfl, hlo, hb.lt⟩⟩)
 intro a1 wd1 N1 D1 hO hR hA hU
 obtain ⟨t2, t4, _⟩ := hA
 have E1 := E0.trans hR
 have s1_1 := oT hO s1_0 rfl
 obtain ⟨b2, s2_1, lo_b2, B2_1⟩ := t2
 have fr_b2 : w0.heap.size ≤ b2 := Nat.le_trans E0.size' lo_b2
 obtain ⟨b4, s4_1, lo_b4, B4_1⟩ := t4
 have fr_b4 : w0.heap.size ≤ b4 := Nat.le_trans E0.size' lo_b4
 obtain ⟨u0, ⟨u1, _⟩⟩ := hU
 have ne_b2_b4 : b2 ≠ b4 := fun e => u0 4 (by decide) (by rw [s2_1, s4_1, e])
 clear E0 N0 D0 s0_0 s1_0
 refine tail_nil ?_
 refine wp_seq ?_
 refine wp_seq ?_
 refine Rl [] [(5, Pr.ex (i64 (n : Int))), (6, Pr.ex (i64 ((0 : Nat) : Int)))] 2 N1 D1 ?_ ?_
 refine Ac ?_ (Ac ?_ (Az _))
 exact Am s1_1 rfl fun _ => rfl
 exact Ap fun aq wq _ hO hR hT => does_move (V := i64 ((0 : Nat) : Int)) rfl eR
 intro a2 wd2 N2 D2 hO hR hA hU
 obtain ⟨t5, t6, _⟩ := hA
 have E2 := E1.trans hR
 have s2_2 := oT hO s2_1 rfl
 have s4_2 := oT hO s4_1 rfl
 have B2_2 := B2_1.ext' hR
 have B4_2 := B4_1.ext' hR
 have s5_2 : get a2 5 = i64 (n : Int) := t5
 have s6_2 : get a2 6 = i64 ((0 : Nat) : Int) := t6
 clear E1 N1 D1 s1_1 s2_1 s4_1 B2_1 B4_1
 refine tail_nil ?_
 refine wp_block ?_
 refine loop_g (fun mz az wz => ∃ k : Nat, mz = n - k ∧ (az.tmps.size = 13) ∧ (az.defers = []) ∧ (get az 2 = Value.pointer (some ⟨b2, 0, none⟩)) ∧ (get az 4 = Value.pointer (some ⟨b4, 0, none⟩)) ∧ (get az 5 = i64 (n : Int)) ∧ (get az 6 = i64 (k : Int)) ∧ (Ext w0 wz) ∧ (Has wz b2 24 [w32 (walk x k).a, w32 (walk x k).b, w32 (walk x k).c, w32 (walk x k).d]) ∧ (Has wz b4 24 [w32 (Dg.zero).a, w32 (Dg.zero).b, w32 (Dg.zero).c, w32 (Dg.zero).d]) ∧ (k ≤ n)) ?_ ?_
 exact ⟨_, 0, rfl, N2, D2, s2_2, s4_2, s5_2, s6_2, E2, B2_2, B4_2, Nat.zero_le _⟩
 rintro mz a3 wd3 ⟨k, rfl, N3, D3, s2_3, s4_3, s5_3, s6_3, E3, B2_3, B4_3, hk⟩
 refine wp_seq ?_
 refine Rl [] [(7, Pr.ex (Value.bool (decide ((k : Int) < (n : Int)))))] 1 N3 D3 ?_ ?_
 refine Ac ?_ (Az _)
 exact Ap fun aq wq _ hO hR hT => does_lss (a := (k : Int)) (b := (n : Int)) (oT hO s6_3 rfl) (oT hO s5_3 rfl) eR
 intro a4 wd4 N4 D4 hO hR hA hU
 obtain ⟨t7, _⟩ := hA
 have E4 := E3.trans hR
 have s2_4 := oT hO s2_3 rfl
 have s4_4 := oT hO s4_3 rfl
 have s5_4 := oT hO s5_3 rfl
 have s6_4 := oT hO s6_3 rfl
 have B2_4 := B2_3.ext' hR
 have B4_4 := B4_3.ext' hR
 have s7_4 : get a4 7 = Value.bool (decide ((k : Int) < (n : Int))) := t7
 clear E3 N3 D3 s2_3 s4_3 s5_3 s6_3 B2_3 B4_3
 refine tail_nil ?_
 refine wp_seq ?_
 refine wp_if (B := decide ((k : Int) < (n : Int))) s7_4 (fun hc0 => ?_) (fun hc0 => ?_)
 have hc0 := of_decide_eq_true hc0
 refine wp_skip ?_
 refine wp_seq ?_
 refine wp_block ?_
 refine Rl [] [(8, Pr.ex (Dg.val (walk x k))), (9, Pr.ex (Dg.val ((⟨(0 : UInt32), (0 : UInt32), (0 : UInt32), (1 : UInt32)⟩ : Dg)))), (10, Pr.ex (Dg.val (pair (walk x k) ((⟨(0 : UInt32), (0 : UInt32), (0 : UInt32), (1 : UInt32)⟩ : Dg)))))] 3 N4 D4 ?_ ?_
 refine Ac ?_ (Ac ?_ (Ac ?_ (Az _)))
 exact Ap fun aq wq _ hO hR hT => does_loadD (o := 0) (n := 4) (mid := [w32 (walk x k).a, w32 (walk x k).b, w32 (walk x k).c, w32 (walk x k).d]) (oT hO s2_4 rfl) (B2_4.ext' hR) rfl rfl (nB rfl) row_24 rfl eR
 exact Ap fun aq wq _ hO hR hT => does_build (vs := #[(0, w32 (0)), (1, w32 (0)), (2, w32 (0)), (3, w32 (1))]) (V := Dg.val ((⟨(0 : UInt32), (0 : UInt32), (0 : UInt32), (1 : UInt32)⟩ : Dg))) (parts4 rfl rfl rfl rfl) (by kernel_rfl) eR
 exact Ap fun aq wq _ hO hR hT => does_ret (vs := #[Dg.val (walk x k), Dg.val ((⟨(0 : UInt32), (0 : UInt32), (0 : UInt32), (1 : UInt32)⟩ : Dg))]) call_21 (args2 (hT 8 rfl rfl) (hT 9 rfl rfl)) rfl ((pair_ (walk x k) ((⟨(0 : UInt32), (0 : UInt32), (0 : UInt32), (1 : UInt32)⟩ : Dg)) wq (hL.ext (E4.trans hR))).mono fun v w2 h => ⟨h.2, h.1⟩)
 intro a5 wd5 N5 D5 hO hR hA hU
 obtain ⟨_, _, t10, _⟩ := hA
 have E5 := E4.trans hR
 have s2_5 := oT hO s2_4 rfl
 have s4_5 := oT hO s4_4 rfl
 have s5_5 := oT hO s5_4 rfl
 have s6_5 := oT hO s6_4 rfl
 have B2_5 := B2_4.ext' hR
 have B4_5 := B4_4.ext' hR
 have s10_5 : get a5 10 = Dg.val (pair (walk x k) ((⟨(0 : UInt32), (0 : UInt32), (0 : UInt32), (1 : UInt32)⟩ : Dg))) := t10
 clear E4 N4 D4 s2_4 s4_4 s5_4 s6_4 s7_4 B2_4 B4_4
 refine tail_none rfl rfl (does_storeD (o := 0) (n := 4) (cs' := [w32 (pair (walk x k) ((⟨(0 : UInt32), (0 : UInt32), (0 : UInt32), (1 : UInt32)⟩ : Dg))).a, w32 (pair (walk x k) ((⟨(0 : UInt32), (0 : UInt32), (0 : UInt32), (1 : UInt32)⟩ : Dg))).b, w32 (pair (walk x k) ((⟨(0 : UInt32), (0 : UInt32), (0 : UInt32), (1 : UInt32)⟩ : Dg))).c, w32 (pair (walk x k) ((⟨(0 : UInt32), (0 : UInt32), (0 : UInt32), (1 : UInt32)⟩ : Dg))).d]) (V := Dg.val (pair (walk x k) ((⟨(0 : UInt32), (0 : UInt32), (0 : UInt32), (1 : UInt32)⟩ : Dg)))) s2_5 s10_5 B2_5 (nB rfl) rfl siz_24 rfl rfl (fun wd6 hX hz B2_6 => ?_))
 have E6 := E5.since hX (fun k e => e ▸ fr_b2)
 have B4_6 := B4_5.ext hX ne_b2_b4.symm
 clear hX hz E5 B2_5 B4_5
 refine tail_nil ?_
 refine Rl [] [(11, Pr.ex (i64 ((k + 1 : Nat) : Int)))] 1 N5 D5 ?_ ?_
 refine Ac ?_ (Az _)
 exact Ap fun aq wq _ hO hR hT => does_add (a := (k : Int)) (b := ((1 : Nat) : Int)) (r := ((k + 1 : Nat) : Int)) (oT hO s6_5 rfl) rfl (by omega) (by omega) (by omega) eR
 intro a7 wd7 N7 D7 hO hR hA hU
 obtain ⟨t11, _⟩ := hA
 have E7 := E6.trans hR
 have s2_7 := oT hO s2_5 rfl
 have s4_7 := oT hO s4_5 rfl
 have s5_7 := oT hO s5_5 rfl
 have s6_7 := oT hO s6_5 rfl
 have B2_7 := B2_6.ext' hR
 have B4_7 := B4_6.ext' hR
 have s11_7 : get a7 11 = i64 ((k + 1 : Nat) : Int) := t11
 clear E6 N5 D5 s2_5 s4_5 s5_5 s6_5 s10_5 B2_6 B4_6
 refine tail_put rfl rfl N7 D7 (by decide) (does_move (V := i64 ((k + 1 : Nat) : Int)) s11_7 (fun a8 N8 D8 hv hO => ?_))
 have s6_8 := hv
 have s2_8 := oT hO s2_7 rfl
 have s4_8 := oT hO s4_7 rfl
 have s5_8 := oT hO s5_7 rfl
 clear hO hv N7 D7 s2_7 s4_7 s5_7 s11_7 s6_7
 refine tail_nil ?_
 exact ⟨_, by omega, k + 1, rfl, N8, D8, s2_8, s4_8, s5_8, s6_8, E7, (by have h := B2_7; rw [← walk_step] at h; exact h), B4_7, by omega⟩
 have hc0 := of_decide_eq_false hc0
 refine wp_exit ?_
 refine wp_seq ?_
 refine Rl [] [(12, Pr.ex (Dg.val (walk x k)))] 1 N4 D4 ?_ ?_
 refine Ac ?_ (Az _)
 exact Ap fun aq wq _ hO hR hT => does_loadD (o := 0) (n := 4) (mid := [w32 (walk x k).a, w32 (walk x k).b, w32 (walk x k).c, w32 (walk x k).d]) (oT hO s2_4 rfl) (B2_4.ext' hR) rfl rfl (nB rfl) row_24 rfl eR
 intro a9 wd9 N9 D9 hO hR hA hU
 obtain ⟨t12, _⟩ := hA
 have E9 := E4.trans hR
 have s4_9 := oT hO s4_4 rfl
 have B2_9 := B2_4.ext' hR
 have B4_9 := B4_4.ext' hR
 have s12_9 : get a9 12 = Dg.val (walk x k) := t12
 clear E4 N4 D4 s2_4 s4_4 s5_4 s6_4 s7_4 B2_4 B4_4
 refine tail_none rfl rfl (does_storeD (o := 0) (n := 4) (cs' := [w32 (walk x k).a, w32 (walk x k).b, w32 (walk x k).c, w32 (walk x k).d]) (V := Dg.val (walk x k)) s4_9 s12_9 B4_9 (nB rfl) rfl siz_24 rfl rfl (fun wd10 hX hz B4_10 => ?_))
 have E10 := E9.since hX (fun k e => e ▸ fr_b4)
 have B2_10 := B2_9.ext hX ne_b2_b4
 clear hX hz E9 B2_9 B4_9
 refine tail_nil ?_
 refine wp_ret ?_
 refine res_one (V := Dg.val (walk x k)) rfl D9 (ResIs.cell s4_9 B4_10 row_24 rfl rfl) ?_
 have hkn : k = n := by omega
 subst hkn
 exact ⟨rfl, E10⟩

theorem walkR (x : Dg) (n : Nat) (w0 : World) (hn : n ≤ 15) :
    Gives Tryd.prog 70 #[Dg.val (x), i64 (n : Int)] w0 (Pr.ex (Dg.val (walk x n))) := by
 refine enter (N := 15) Tryd.func70 rfl rfl ?_
 intro a0 N0 D0 hA
 have s0_0 : get a0 0 = Dg.val (x) := hA 0 _ rfl
 have s1_0 : get a0 1 = i64 (n : Int) := hA 1 _ rfl
 clear hA
 have E0 : Ext w0 w0 := Ext.refl w0
 refine wp_seq ?_
 refine Rl [2, 4] [(2, Pr.box' w0.heap.size 24 [w32 (x).a, w32 (x).b, w32 (x).c, w32 (x).d]), (4, Pr.box' w0.heap.size 24 [w32 (Dg.zero).a, w32 (Dg.zero).b, w32 (Dg.zero).c, w32 (Dg.zero).d])] 2 N0 D0 ?_ ?_
 refine Ac ?_ (Ac ?_ (Az _))
 refine Ask.fresh rfl rfl ?_
 intro aq wq hNq hO hR hT
 exact does_box (V := Dg.val (x)) (oT hO s0_0 rfl) (fun b w2 he hlo hb => ⟨he, ⟨b, rfl, Nat.le_trans hR.size' hlo, hb⟩, ⟨b, rfl, hlo, hb.lt⟩⟩)
 refine Ask.fresh rfl rfl ?_
 intro aq wq hNq hO hR hT
 exact does_alloc zero_24 (fun b w2 he hlo hb => ⟨he, ⟨b, rfl, Nat.le_trans hR.size' hlo, hb⟩, ⟨b, rfl, hlo, hb.lt⟩⟩)
 intro a1 wd1 N1 D1 hO hR hA hU
 obtain ⟨t2, t4, _⟩ := hA
 have E1 := E0.trans hR
 have s1_1 := oT hO s1_0 rfl
 obtain ⟨b2, s2_1, lo_b2, B2_1⟩ := t2
 have fr_b2 : w0.heap.size ≤ b2 := Nat.le_trans E0.size' lo_b2
 obtain ⟨b4, s4_1, lo_b4, B4_1⟩ := t4
 have fr_b4 : w0.heap.size ≤ b4 := Nat.le_trans E0.size' lo_b4
 obtain ⟨u0, ⟨u1, _⟩⟩ := hU
 have ne_b2_b4 : b2 ≠ b4 := fun e => u0 4 (by decide) (by rw [s2_1, s4_1, e])
 clear E0 N0 D0 s0_0 s1_0
 refine tail_nil ?_
 refine wp_seq ?_
 refine wp_seq ?_
 refine Rl [] [(5, Pr.ex (i64 ((0 : Nat) : Int)))] 1 N1 D1 ?_ ?_
 refine Ac ?_ (Az _)
 exact Ap fun aq wq _ hO hR hT => does_assign (V := i64 ((0 : Nat) : Int)) rfl eR
 intro a2 wd2 N2 D2 hO hR hA hU
 obtain ⟨t5, _⟩ := hA
 have E2 := E1.trans hR
 have s1_2 := oT hO s1_1 rfl
 have s2_2 := oT hO s2_1 rfl
 have s4_2 := oT hO s4_1 rfl
 have B2_2 := B2_1.ext' hR
 have B4_2 := B4_1.ext' hR
 have s5_2 : get a2 5 = i64 ((0 : Nat) : Int) := t5
 clear E1 N1 D1 s1_1 s2_1 s4_1 B2_1 B4_1
 refine tail_nil ?_
 refine wp_block ?_
 refine loop_g (fun mz az wz => ∃ k : Nat, mz = n - k ∧ (az.tmps.size = 15) ∧ (az.defers = []) ∧ (get az 1 = i64 (n : Int)) ∧ (get az 2 = Value.pointer (some ⟨b2, 0, none⟩)) ∧ (get az 4 = Value.pointer (some ⟨b4, 0, none⟩)) ∧ (get az 5 = i64 (k : Int)) ∧ (Ext w0 wz) ∧ (Has wz b2 24 [w32 (walk x k).a, w32 (walk x k).b, w32 (walk x k).c, w32 (walk x k).d]) ∧ (Has wz b4 24 [w32 (Dg.zero).a, w32 (Dg.zero).b, w32 (Dg.zero).c, w32 (Dg.zero).d]) ∧ (k ≤ n)) ?_ ?_
 exact ⟨_, 0, rfl, N2, D2, s1_2, s2_2, s4_2, s5_2, E2, B2_2, B4_2, Nat.zero_le _⟩
 rintro mz a3 wd3 ⟨k, rfl, N3, D3, s1_3, s2_3, s4_3, s5_3, E3, B2_3, B4_3, hk⟩
 refine wp_seq ?_
 refine wp_seq ?_
 refine Rl [] [(6, Pr.ex (i64 (k : Int))), (7, Pr.ex (i64 (n : Int))), (8, Pr.ex (Value.bool (decide ((k : Int) < (n : Int)))))] 3 N3 D3 ?_ ?_
 refine Ac ?_ (Ac ?_ (Ac ?_ (Az _)))
 exact Am s5_3 rfl fun _ => rfl
 exact Am s1_3 rfl fun _ => rfl
 exact Ap fun aq wq _ hO hR hT => does_lss (a := (k : Int)) (b := (n : Int)) (hT 6 rfl rfl) (hT 7 rfl rfl) eR
 intro a4 wd4 N4 D4 hO hR hA hU
 obtain ⟨_, _, t8, _⟩ := hA
 have E4 := E3.trans hR
 have s1_4 := oT hO s1_3 rfl
 have s2_4 := oT hO s2_3 rfl
 have s4_4 := oT hO s4_3 rfl
 have s5_4 := oT hO s5_3 rfl
 have B2_4 := B2_3.ext' hR
 have B4_4 := B4_3.ext' hR
 have s8_4 : get a4 8 = Value.bool (decide ((k : Int) < (n : Int))) := t8
 clear E3 N3 D3 s1_3 s2_3 s4_3 s5_3 B2_3 B4_3
 refine tail_nil ?_
 refine wp_if (B := decide ((k : Int) < (n : Int))) s8_4 (fun hc0 => ?_) (fun hc0 => ?_)
 have hc0 := of_decide_eq_true hc0
 refine wp_skip ?_
 refine wp_seq ?_
 refine wp_block ?_
 refine Rl [] [(11, Pr.ex (Dg.val (walk x k))), (12, Pr.ex (Dg.val ((⟨(0 : UInt32), (0 : UInt32), (0 : UInt32), (1 : UInt32)⟩ : Dg)))), (13, Pr.ex (Dg.val (pair (walk x k) ((⟨(0 : UInt32), (0 : UInt32), (0 : UInt32), (1 : UInt32)⟩ : Dg)))))] 3 N4 D4 ?_ ?_
 refine Ac ?_ (Ac ?_ (Ac ?_ (Az _)))
 exact Ap fun aq wq _ hO hR hT => does_loadD (o := 0) (n := 4) (mid := [w32 (walk x k).a, w32 (walk x k).b, w32 (walk x k).c, w32 (walk x k).d]) (oT hO s2_4 rfl) (B2_4.ext' hR) rfl rfl (nB rfl) row_24 rfl eR
 exact Ap fun aq wq _ hO hR hT => does_build (vs := #[(0, w32 (0)), (1, w32 (0)), (2, w32 (0)), (3, w32 (1))]) (V := Dg.val ((⟨(0 : UInt32), (0 : UInt32), (0 : UInt32), (1 : UInt32)⟩ : Dg))) (parts4 rfl rfl rfl rfl) (by kernel_rfl) eR
 exact Ap fun aq wq _ hO hR hT => does_ret (vs := #[Dg.val (walk x k), Dg.val ((⟨(0 : UInt32), (0 : UInt32), (0 : UInt32), (1 : UInt32)⟩ : Dg))]) call_23 (args2 (hT 11 rfl rfl) (hT 12 rfl rfl)) rfl ((pairR (walk x k) ((⟨(0 : UInt32), (0 : UInt32), (0 : UInt32), (1 : UInt32)⟩ : Dg)) wq).mono fun v w2 h => ⟨h.2, h.1⟩)
 intro a5 wd5 N5 D5 hO hR hA hU
 obtain ⟨_, _, t13, _⟩ := hA
 have E5 := E4.trans hR
 have s1_5 := oT hO s1_4 rfl
 have s2_5 := oT hO s2_4 rfl
 have s4_5 := oT hO s4_4 rfl
 have s5_5 := oT hO s5_4 rfl
 have B2_5 := B2_4.ext' hR
 have B4_5 := B4_4.ext' hR
 have s13_5 : get a5 13 = Dg.val (pair (walk x k) ((⟨(0 : UInt32), (0 : UInt32), (0 : UInt32), (1 : UInt32)⟩ : Dg))) := t13
 clear E4 N4 D4 s1_4 s2_4 s4_4 s5_4 s8_4 B2_4 B4_4
 refine tail_none rfl rfl (does_storeD (o := 0) (n := 4) (cs' := [w32 (pair (walk x k) ((⟨(0 : UInt32), (0 : UInt32), (0 : UInt32), (1 : UInt32)⟩ : Dg))).a, w32 (pair (walk x k) ((⟨(0 : UInt32), (0 : UInt32), (0 : UInt32), (1 : UInt32)⟩ : Dg))).b, w32 (pair (walk x k) ((⟨(0 : UInt32), (0 : UInt32), (0 : UInt32), (1 : UInt32)⟩ : Dg))).c, w32 (pair (walk x k) ((⟨(0 : UInt32), (0 : UInt32), (0 : UInt32), (1 : UInt32)⟩ : Dg))).d]) (V := Dg.val (pair (walk x k) ((⟨(0 : UInt32), (0 : UInt32), (0 : UInt32), (1 : UInt32)⟩ : Dg)))) s2_5 s13_5 B2_5 (nB rfl) rfl siz_24 rfl rfl (fun wd6 hX hz B2_6 => ?_))
 have E6 := E5.since hX (fun k e => e ▸ fr_b2)
 have B4_6 := B4_5.ext hX ne_b2_b4.symm
 clear hX hz E5 B2_5 B4_5
 refine tail_nil ?_
 refine Rl [] [(9, Pr.ex (i64 (k : Int))), (10, Pr.ex (i64 ((k + 1 : Nat) : Int)))] 2 N5 D5 ?_ ?_
 refine Ac ?_ (Ac ?_ (Az _))
 exact Am s5_5 rfl fun _ => rfl
 exact Ap fun aq wq _ hO hR hT => does_add (a := (k : Int)) (b := ((1 : Nat) : Int)) (r := ((k + 1 : Nat) : Int)) (hT 9 rfl rfl) rfl (by omega) (by omega) (by omega) eR
 intro a7 wd7 N7 D7 hO hR hA hU
 obtain ⟨_, t10, _⟩ := hA
 have E7 := E6.trans hR
 have s1_7 := oT hO s1_5 rfl
 have s2_7 := oT hO s2_5 rfl
 have s4_7 := oT hO s4_5 rfl
 have s5_7 := oT hO s5_5 rfl
 have B2_7 := B2_6.ext' hR
 have B4_7 := B4_6.ext' hR
 have s10_7 : get a7 10 = i64 ((k + 1 : Nat) : Int) := t10
 clear E6 N5 D5 s1_5 s2_5 s4_5 s5_5 s13_5 B2_6 B4_6
 refine tail_put rfl rfl N7 D7 (by decide) (does_assign (V := i64 ((k + 1 : Nat) : Int)) s10_7 (fun a8 N8 D8 hv hO => ?_))
 have s5_8 := hv
 have s1_8 := oT hO s1_7 rfl
 have s2_8 := oT hO s2_7 rfl
 have s4_8 := oT hO s4_7 rfl
 clear hO hv N7 D7 s1_7 s2_7 s4_7 s10_7 s5_7
 refine tail_nil ?_
 exact ⟨_, by omega, k + 1, rfl, N8, D8, s1_8, s2_8, s4_8, s5_8, E7, (by have h := B2_7; rw [← walk_step] at h; exact h), B4_7, by omega⟩
 have hc0 := of_decide_eq_false hc0
 refine wp_exit ?_
 refine wp_seq ?_
 refine Rl [] [(14, Pr.ex (Dg.val (walk x k)))] 1 N4 D4 ?_ ?_
 refine Ac ?_ (Az _)
 exact Ap fun aq wq _ hO hR hT => does_loadD (o := 0) (n := 4) (mid := [w32 (walk x k).a, w32 (walk x k).b, w32 (walk x k).c, w32 (walk x k).d]) (oT hO s2_4 rfl) (B2_4.ext' hR) rfl rfl (nB rfl) row_24 rfl eR
 intro a9 wd9 N9 D9 hO hR hA hU
 obtain ⟨t14, _⟩ := hA
 have E9 := E4.trans hR
 have s4_9 := oT hO s4_4 rfl
 have B2_9 := B2_4.ext' hR
 have B4_9 := B4_4.ext' hR
 have s14_9 : get a9 14 = Dg.val (walk x k) := t14
 clear E4 N4 D4 s1_4 s2_4 s4_4 s5_4 s8_4 B2_4 B4_4
 refine tail_none rfl rfl (does_storeD (o := 0) (n := 4) (cs' := [w32 (walk x k).a, w32 (walk x k).b, w32 (walk x k).c, w32 (walk x k).d]) (V := Dg.val (walk x k)) s4_9 s14_9 B4_9 (nB rfl) rfl siz_24 rfl rfl (fun wd10 hX hz B4_10 => ?_))
 have E10 := E9.since hX (fun k e => e ▸ fr_b4)
 have B2_10 := B2_9.ext hX ne_b2_b4
 clear hX hz E9 B2_9 B4_9
 refine tail_nil ?_
 refine wp_ret ?_
 refine res_one (V := Dg.val (walk x k)) rfl D9 (ResIs.cell s4_9 B4_10 row_24 rfl rfl) ?_
 have hkn : k = n := by omega
 subst hkn
 exact ⟨rfl, E10⟩

end Go.Proofs.YtmmghpbncejfiaaDoor
