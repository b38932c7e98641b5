/- The walks of functions of the program: printed. -/
import Derived.Test.YtmmghpbncejfiaaDoorKB
import Derived.Test.YtmmghpbncejfiaaDoorG3
import Derived.Test.YtmmghpbncejfiaaDoorG60
import Derived.Test.YtmmghpbncejfiaaDoorF0
set_option maxRecDepth 100000
namespace Go.Proofs.YtmmghpbncejfiaaDoor
open Go Go.RowKit Sk Sd
theorem begin_ (seed : Dg) (i : Nat) (w0 : World) (hL : Laid w0) :
    Gives Tryd.prog 79 #[Dg.val (seed), i64 (i : Int)] w0 (Pr.ex (Dg.val (Sd.start seed i))) := by
 refine enter (N := 10) Tryd.func79 rfl rfl ?_
 intro a0 N0 D0 hA
 have s0_0 : get a0 0 = Dg.val (seed) := hA 0 _ rfl
 have s1_0 : get a0 1 = i64 (i : Int) := hA 1 _ rfl
 clear hA
 have E0 : Ext w0 w0 := Ext.refl w0
 refine wp_seq ?_
 refine Rl [2, 4] [(2, Pr.box' w0.heap.size 24 [w32 (seed).a, w32 (seed).b, w32 (seed).c, w32 (seed).d]), (4, Pr.box' w0.heap.size 24 [w32 (Dg.zero).a, w32 (Dg.zero).b, w32 (Dg.zero).c, w32 (Dg.zero).d])] 2 N0 D0 ?_ ?_
 refine Ac ?_ (Ac ?_ (Az _))
 refine Ask.fresh rfl rfl ?_
 intro aq wq hNq hO hR hT
 exact does_box (V := Dg.val (seed)) (oT hO s0_0 rfl) (fun b w2 he hlo hb => ⟨he, ⟨b, rfl, Nat.le_trans hR.size' hlo, hb⟩, ⟨b, rfl, hlo, hb.lt⟩⟩)
 refine Ask.fresh rfl rfl ?_
 intro aq wq hNq hO hR hT
 exact does_alloc zero_24 (fun b w2 he hlo hb => ⟨he, ⟨b, rfl, Nat.le_trans hR.size' hlo, hb⟩, ⟨b, rfl, hlo, hb.lt⟩⟩)
 intro a1 wd1 N1 D1 hO hR hA hU
 obtain ⟨t2, t4, _⟩ := hA
 have E1 := E0.trans hR
 have s1_1 := oT hO s1_0 rfl
 obtain ⟨b2, s2_1, lo_b2, B2_1⟩ := t2
 have fr_b2 : w0.heap.size ≤ b2 := Nat.le_trans E0.size' lo_b2
 obtain ⟨b4, s4_1, lo_b4, B4_1⟩ := t4
 have fr_b4 : w0.heap.size ≤ b4 := Nat.le_trans E0.size' lo_b4
 obtain ⟨u0, ⟨u1, _⟩⟩ := hU
 have ne_b2_b4 : b2 ≠ b4 := fun e => u0 4 (by decide) (by rw [s2_1, s4_1, e])
 clear E0 N0 D0 s0_0 s1_0
 refine tail_nil ?_
 refine wp_seq ?_
 refine Rl [] [(5, Pr.ex (Dg.val (seed))), (6, Pr.ex (i64 (i : Int))), (7, Pr.ex (w32 (UInt32.ofNat i))), (8, Pr.ex (Dg.val ((⟨UInt32.ofNat i, 0, 0, 0⟩ : Dg)))), (9, Pr.ex (Dg.val (pair seed ((⟨UInt32.ofNat i, 0, 0, 0⟩ : Dg)))))] 5 N1 D1 ?_ ?_
 refine Ac ?_ (Ac ?_ (Ac ?_ (Ac ?_ (Ac ?_ (Az _)))))
 exact Ap fun aq wq _ hO hR hT => does_loadD (o := 0) (n := 4) (mid := [w32 (seed).a, w32 (seed).b, w32 (seed).c, w32 (seed).d]) (oT hO s2_1 rfl) (B2_1.ext' hR) rfl rfl (nB rfl) row_24 rfl eR
 exact Am s1_1 rfl fun _ => rfl
 exact Ap fun aq wq _ hO hR hT => does_conv ⟨_, Tryd.underlying3⟩ Tryd.underlying22 (hT 6 rfl rfl) (wrap_u32 _) eR
 exact Ap fun aq wq _ hO hR hT => does_build (vs := #[(0, w32 (UInt32.ofNat i))]) (V := Dg.val ((⟨UInt32.ofNat i, 0, 0, 0⟩ : Dg))) (parts1 (hT 7 rfl rfl)) (by kernel_rfl) eR
 exact Ap fun aq wq _ hO hR hT => does_ret (vs := #[Dg.val (seed), Dg.val ((⟨UInt32.ofNat i, 0, 0, 0⟩ : Dg))]) call_21 (args2 (hT 5 rfl rfl) (hT 8 rfl rfl)) rfl ((pair_ (seed) ((⟨UInt32.ofNat i, 0, 0, 0⟩ : Dg)) wq (hL.ext (E1.trans hR))).mono fun v w2 h => ⟨h.2, h.1⟩)
 intro a2 wd2 N2 D2 hO hR hA hU
 obtain ⟨_, _, _, _, t9, _⟩ := hA
 have E2 := E1.trans hR
 have s4_2 := oT hO s4_1 rfl
 have B2_2 := B2_1.ext' hR
 have B4_2 := B4_1.ext' hR
 have s9_2 : get a2 9 = Dg.val (pair seed ((⟨UInt32.ofNat i, 0, 0, 0⟩ : Dg))) := t9
 clear E1 N1 D1 s1_1 s2_1 s4_1 B2_1 B4_1
 refine tail_none rfl rfl (does_storeD (o := 0) (n := 4) (cs' := [w32 (pair seed ((⟨UInt32.ofNat i, 0, 0, 0⟩ : Dg))).a, w32 (pair seed ((⟨UInt32.ofNat i, 0, 0, 0⟩ : Dg))).b, w32 (pair seed ((⟨UInt32.ofNat i, 0, 0, 0⟩ : Dg))).c, w32 (pair seed ((⟨UInt32.ofNat i, 0, 0, 0⟩ : Dg))).d]) (V := Dg.val (pair seed ((⟨UInt32.ofNat i, 0, 0, 0⟩ : Dg)))) s4_2 s9_2 B4_2 (nB rfl) rfl siz_24 rfl rfl (fun wd3 hX hz B4_3 => ?_))
 have E3 := E2.since hX (fun k e => e ▸ fr_b4)
 have B2_3 := B2_2.ext hX ne_b2_b4
 clear hX hz E2 B2_2 B4_2
 refine tail_nil ?_
 refine wp_ret ?_
 refine res_one (V := Dg.val (pair seed ((⟨UInt32.ofNat i, 0, 0, 0⟩ : Dg)))) rfl D2 (ResIs.cell s4_2 B4_3 row_24 rfl rfl) ?_
 exact ⟨rfl, E3⟩

theorem public1 (seed : Dg) (i bd : Nat) (w0 : World) (hL : Laid w0) (hbd : Has w0 bd 24 [w32 seed.a, w32 seed.b, w32 seed.c, w32 seed.d]) :
    Gives Tryd.prog 78 #[i64 (i : Int), Value.pointer (some ⟨bd, 0, none⟩)] w0 (Pr.ex (Dg.val (link1 seed i))) := by
 refine enter (N := 8) Tryd.func78 rfl rfl ?_
 intro a0 N0 D0 hA
 have s0_0 : get a0 0 = i64 (i : Int) := hA 0 _ rfl
 have s1_0 : get a0 1 = Value.pointer (some ⟨bd, 0, none⟩) := hA 1 _ rfl
 clear hA
 have E0 : Ext w0 w0 := Ext.refl w0
 refine wp_seq ?_
 refine Rl [3] [(3, Pr.box' w0.heap.size 24 [w32 (Dg.zero).a, w32 (Dg.zero).b, w32 (Dg.zero).c, w32 (Dg.zero).d])] 1 N0 D0 ?_ ?_
 refine Ac ?_ (Az _)
 refine Ask.fresh rfl rfl ?_
 intro aq wq hNq hO hR hT
 exact does_alloc zero_24 (fun b w2 he hlo hb => ⟨he, ⟨b, rfl, Nat.le_trans hR.size' hlo, hb⟩, ⟨b, rfl, hlo, hb.lt⟩⟩)
 intro a1 wd1 N1 D1 hO hR hA hU
 obtain ⟨t3, _⟩ := hA
 have E1 := E0.trans hR
 have s0_1 := oT hO s0_0 rfl
 have s1_1 := oT hO s1_0 rfl
 have hbbd_1 := hbd.ext' hR
 obtain ⟨b3, s3_1, lo_b3, B3_1⟩ := t3
 have ne_bd_b3 := Hl hbd lo_b3
 have fr_b3 : w0.heap.size ≤ b3 := Nat.le_trans E0.size' lo_b3
 clear E0 N0 D0 s0_0 s1_0 hbd
 refine tail_nil ?_
 refine wp_seq ?_
 refine Rl [] [(4, Pr.ex (Dg.val (seed))), (5, Pr.ex (i64 (i : Int))), (6, Pr.ex (Dg.val (Sd.start seed i))), (7, Pr.ex (Dg.val (walk (Sd.start seed i) 15)))] 4 N1 D1 ?_ ?_
 refine Ac ?_ (Ac ?_ (Ac ?_ (Ac ?_ (Az _))))
 exact Ap fun aq wq _ hO hR hT => does_loadD (o := 0) (n := 4) (mid := [w32 (seed).a, w32 (seed).b, w32 (seed).c, w32 (seed).d]) (oT hO s1_1 rfl) (hbbd_1.ext' hR) rfl rfl (nB rfl) row_24 rfl eR
 exact Am s0_1 rfl fun _ => rfl
 exact Ap fun aq wq _ hO hR hT => does_ret (vs := #[Dg.val (seed), i64 (i : Int)]) call_79 (args2 (hT 4 rfl rfl) (hT 5 rfl rfl)) rfl ((begin_ seed i wq (hL.ext (E1.trans hR))).mono fun v w2 h => ⟨h.2, h.1⟩)
 exact Ap fun aq wq _ hO hR hT => does_ret (vs := #[Dg.val (Sd.start seed i), i64 ((15 : Nat) : Int)]) call_66 (args2 (hT 6 rfl rfl) rfl) rfl ((along_ (Sd.start seed i) (15) wq (hL.ext (E1.trans hR)) (by omega)).mono fun v w2 h => ⟨h.2, h.1⟩)
 intro a2 wd2 N2 D2 hO hR hA hU
 obtain ⟨_, _, _, t7, _⟩ := hA
 have E2 := E1.trans hR
 have s3_2 := oT hO s3_1 rfl
 have hbbd_2 := hbbd_1.ext' hR
 have B3_2 := B3_1.ext' hR
 have s7_2 : get a2 7 = Dg.val (walk (Sd.start seed i) 15) := t7
 clear E1 N1 D1 s0_1 s1_1 s3_1 hbbd_1 B3_1
 refine tail_none rfl rfl (does_storeD (o := 0) (n := 4) (cs' := [w32 (walk (Sd.start seed i) 15).a, w32 (walk (Sd.start seed i) 15).b, w32 (walk (Sd.start seed i) 15).c, w32 (walk (Sd.start seed i) 15).d]) (V := Dg.val (walk (Sd.start seed i) 15)) s3_2 s7_2 B3_2 (nB rfl) rfl siz_24 rfl rfl (fun wd3 hX hz B3_3 => ?_))
 have E3 := E2.since hX (fun k e => e ▸ fr_b3)
 have hbbd_3 := hbbd_2.ext hX ne_bd_b3
 clear hX hz E2 hbbd_2 B3_2
 refine tail_nil ?_
 refine wp_ret ?_
 refine res_one (V := Dg.val (walk (Sd.start seed i) 15)) rfl D2 (ResIs.cell s3_2 B3_3 row_24 rfl rfl) ?_
 exact ⟨rfl, E3⟩

theorem ends2 (seed : Dg) (bd : Nat) (w0 : World) (hL : Laid w0) (hbd : Has w0 bd 24 [w32 seed.a, w32 seed.b, w32 seed.c, w32 seed.d]) :
    Gives Tryd.prog 64 #[Value.func (.func 78) #[] #[Value.pointer (some ⟨bd, 0, none⟩)]] w0 (Pr.ex (Dg.val (Sd.lone seed))) := by
 refine enter (N := 16) Tryd.func64 rfl rfl ?_
 intro a0 N0 D0 hA
 have s0_0 : get a0 0 = Value.func (.func 78) #[] #[Value.pointer (some ⟨bd, 0, none⟩)] := hA 0 _ rfl
 clear hA
 have E0 : Ext w0 w0 := Ext.refl w0
 refine wp_seq ?_
 refine Rl [2] [(2, Pr.box' w0.heap.size 24 [w32 (Dg.zero).a, w32 (Dg.zero).b, w32 (Dg.zero).c, w32 (Dg.zero).d])] 1 N0 D0 ?_ ?_
 refine Ac ?_ (Az _)
 refine Ask.fresh rfl rfl ?_
 intro aq wq hNq hO hR hT
 exact does_alloc zero_24 (fun b w2 he hlo hb => ⟨he, ⟨b, rfl, Nat.le_trans hR.size' hlo, hb⟩, ⟨b, rfl, hlo, hb.lt⟩⟩)
 intro a1 wd1 N1 D1 hO hR hA hU
 obtain ⟨t2, _⟩ := hA
 have E1 := E0.trans hR
 have s0_1 := oT hO s0_0 rfl
 have hbbd_1 := hbd.ext' hR
 obtain ⟨b2, s2_1, lo_b2, B2_1⟩ := t2
 have ne_bd_b2 := Hl hbd lo_b2
 have fr_b2 : w0.heap.size ≤ b2 := Nat.le_trans E0.size' lo_b2
 clear E0 N0 D0 s0_0 hbd
 refine tail_nil ?_
 refine wp_seq ?_
 refine Rl [3] [(5, Pr.ex (Dg.val ((⟨(35 : UInt32), 0, 0, 0⟩ : Dg)))), (3, Pr.box' wd1.heap.size 24 [w32 (Dg.zero).a, w32 (Dg.zero).b, w32 (Dg.zero).c, w32 (Dg.zero).d])] 2 N1 D1 ?_ ?_
 refine Ac ?_ (Ac ?_ (Az _))
 exact Ap fun aq wq _ hO hR hT => does_build (vs := #[(0, w32 (35))]) (V := Dg.val ((⟨(35 : UInt32), 0, 0, 0⟩ : Dg))) (parts1 rfl) (by kernel_rfl) eR
 refine Ask.fresh rfl rfl ?_
 intro aq wq hNq hO hR hT
 exact does_alloc zero_24 (fun b w2 he hlo hb => ⟨he, ⟨b, rfl, Nat.le_trans hR.size' hlo, hb⟩, ⟨b, rfl, hlo, hb.lt⟩⟩)
 intro a2 wd2 N2 D2 hO hR hA hU
 obtain ⟨t5, t3, _⟩ := hA
 have E2 := E1.trans hR
 have s0_2 := oT hO s0_1 rfl
 have s2_2 := oT hO s2_1 rfl
 have hbbd_2 := hbbd_1.ext' hR
 have B2_2 := B2_1.ext' hR
 have s5_2 : get a2 5 = Dg.val ((⟨(35 : UInt32), 0, 0, 0⟩ : Dg)) := t5
 obtain ⟨b3, s3_2, lo_b3, B3_2⟩ := t3
 have ne_bd_b3 := Hl hbbd_1 lo_b3
 have ne_b2_b3 := Hl B2_1 lo_b3
 have fr_b3 : w0.heap.size ≤ b3 := Nat.le_trans E1.size' lo_b3
 clear E1 N1 D1 s0_1 s2_1 hbbd_1 B2_1
 refine tail_none rfl rfl (does_storeD (o := 0) (n := 4) (cs' := [w32 ((⟨(35 : UInt32), 0, 0, 0⟩ : Dg)).a, w32 ((⟨(35 : UInt32), 0, 0, 0⟩ : Dg)).b, w32 ((⟨(35 : UInt32), 0, 0, 0⟩ : Dg)).c, w32 ((⟨(35 : UInt32), 0, 0, 0⟩ : Dg)).d]) (V := Dg.val ((⟨(35 : UInt32), 0, 0, 0⟩ : Dg))) s3_2 s5_2 B3_2 (nB rfl) rfl siz_24 rfl rfl (fun wd3 hX hz B3_3 => ?_))
 have E3 := E2.since hX (fun k e => e ▸ fr_b3)
 have hbbd_3 := hbbd_2.ext hX ne_bd_b3
 have B2_3 := B2_2.ext hX ne_b2_b3
 clear hX hz E2 hbbd_2 B2_2 B3_2
 refine tail_nil ?_
 refine wp_seq ?_
 refine wp_seq ?_
 refine Rl [] [(6, Pr.ex (i64 ((0 : Nat) : Int)))] 1 N2 D2 ?_ ?_
 refine Ac ?_ (Az _)
 exact Ap fun aq wq _ hO hR hT => does_move (V := i64 ((0 : Nat) : Int)) rfl eR
 intro a4 wd4 N4 D4 hO hR hA hU
 obtain ⟨t6, _⟩ := hA
 have E4 := E3.trans hR
 have s0_4 := oT hO s0_2 rfl
 have s2_4 := oT hO s2_2 rfl
 have s3_4 := oT hO s3_2 rfl
 have hbbd_4 := hbbd_3.ext' hR
 have B2_4 := B2_3.ext' hR
 have B3_4 := B3_3.ext' hR
 have s6_4 : get a4 6 = i64 ((0 : Nat) : Int) := t6
 clear E3 N2 D2 s0_2 s2_2 s3_2 s5_2 hbbd_3 B2_3 B3_3
 refine tail_nil ?_
 refine wp_block ?_
 refine loop_g (fun mz az wz => ∃ k : Nat, mz = 35 - k ∧ (az.tmps.size = 16) ∧ (az.defers = []) ∧ (get az 0 = Value.func (.func 78) #[] #[Value.pointer (some ⟨bd, 0, none⟩)]) ∧ (get az 2 = Value.pointer (some ⟨b2, 0, none⟩)) ∧ (get az 3 = Value.pointer (some ⟨b3, 0, none⟩)) ∧ (get az 6 = i64 (k : Int)) ∧ (Ext w0 wz) ∧ (Has wz bd 24 [w32 (seed).a, w32 (seed).b, w32 (seed).c, w32 (seed).d]) ∧ (Has wz b2 24 [w32 (Dg.zero).a, w32 (Dg.zero).b, w32 (Dg.zero).c, w32 (Dg.zero).d]) ∧ (Has wz b3 24 [w32 (tied (⟨(35 : UInt32), (0 : UInt32), (0 : UInt32), (0 : UInt32)⟩ : Dg) ((List.range k).map (link1 seed))).a, w32 (tied (⟨(35 : UInt32), (0 : UInt32), (0 : UInt32), (0 : UInt32)⟩ : Dg) ((List.range k).map (link1 seed))).b, w32 (tied (⟨(35 : UInt32), (0 : UInt32), (0 : UInt32), (0 : UInt32)⟩ : Dg) ((List.range k).map (link1 seed))).c, w32 (tied (⟨(35 : UInt32), (0 : UInt32), (0 : UInt32), (0 : UInt32)⟩ : Dg) ((List.range k).map (link1 seed))).d]) ∧ (k ≤ 35)) ?_ ?_
 exact ⟨_, 0, rfl, N4, D4, s0_4, s2_4, s3_4, s6_4, E4, hbbd_4, B2_4, B3_4, by decide⟩
 rintro mz a5 wd5 ⟨k, rfl, N5, D5, s0_5, s2_5, s3_5, s6_5, E5, hbbd_5, B2_5, B3_5, hk⟩
 refine wp_seq ?_
 refine Rl [] [(7, Pr.ex (Value.bool (decide ((k : Int) < ((35 : Nat) : Int)))))] 1 N5 D5 ?_ ?_
 refine Ac ?_ (Az _)
 exact Ap fun aq wq _ hO hR hT => does_lss (a := (k : Int)) (b := ((35 : Nat) : Int)) (oT hO s6_5 rfl) rfl eR
 intro a6 wd6 N6 D6 hO hR hA hU
 obtain ⟨t7, _⟩ := hA
 have E6 := E5.trans hR
 have s0_6 := oT hO s0_5 rfl
 have s2_6 := oT hO s2_5 rfl
 have s3_6 := oT hO s3_5 rfl
 have s6_6 := oT hO s6_5 rfl
 have hbbd_6 := hbbd_5.ext' hR
 have B2_6 := B2_5.ext' hR
 have B3_6 := B3_5.ext' hR
 have s7_6 : get a6 7 = Value.bool (decide ((k : Int) < ((35 : Nat) : Int))) := t7
 clear E5 N5 D5 s0_5 s2_5 s3_5 s6_5 hbbd_5 B2_5 B3_5
 refine tail_nil ?_
 refine wp_seq ?_
 refine wp_if (B := decide ((k : Int) < ((35 : Nat) : Int))) s7_6 (fun hc0 => ?_) (fun hc0 => ?_)
 have hc0 := of_decide_eq_true hc0
 refine wp_skip ?_
 refine wp_seq ?_
 refine wp_block ?_
 refine wp_seq ?_
 refine Rl [] [(8, Pr.ex (i64 (k : Int))), (4, Pr.ex (i64 (k : Int)))] 2 N6 D6 ?_ ?_
 refine Ac ?_ (Ac ?_ (Az _))
 exact Am s6_6 rfl fun _ => rfl
 exact Ap fun aq wq _ hO hR hT => does_assign (V := i64 (k : Int)) (hT 8 rfl rfl) eR
 intro a7 wd7 N7 D7 hO hR hA hU
 obtain ⟨_, t4, _⟩ := hA
 have E7 := E6.trans hR
 have s0_7 := oT hO s0_6 rfl
 have s2_7 := oT hO s2_6 rfl
 have s3_7 := oT hO s3_6 rfl
 have s6_7 := oT hO s6_6 rfl
 have hbbd_7 := hbbd_6.ext' hR
 have B2_7 := B2_6.ext' hR
 have B3_7 := B3_6.ext' hR
 have s4_7 : get a7 4 = i64 (k : Int) := t4
 clear E6 N6 D6 s0_6 s2_6 s3_6 s6_6 s7_6 hbbd_6 B2_6 B3_6
 refine tail_nil ?_
 refine Ra [] [(9, Pr.ex (Dg.val (tied (⟨(35 : UInt32), (0 : UInt32), (0 : UInt32), (0 : UInt32)⟩ : Dg) ((List.range k).map (link1 seed))))), (10, Pr.ex (Value.func (.func 78) #[] #[Value.pointer (some ⟨bd, 0, none⟩)])), (11, Pr.ex (i64 (k : Int))), (12, Pr.ex (Dg.val (link1 seed k))), (13, Pr.ex (Dg.val (pair (tied (⟨(35 : UInt32), (0 : UInt32), (0 : UInt32), (0 : UInt32)⟩ : Dg) ((List.range k).map (link1 seed))) (link1 seed k))))] 5 mixed N7 D7 ?_ ?_
 refine Ac ?_ (Ac ?_ (Ac ?_ (Ac ?_ (Ac ?_ (Az _)))))
 exact Ad fun aq wq _ hO hR hT => does_loadD (o := 0) (n := 4) (mid := [w32 (tied (⟨(35 : UInt32), (0 : UInt32), (0 : UInt32), (0 : UInt32)⟩ : Dg) ((List.range k).map (link1 seed))).a, w32 (tied (⟨(35 : UInt32), (0 : UInt32), (0 : UInt32), (0 : UInt32)⟩ : Dg) ((List.range k).map (link1 seed))).b, w32 (tied (⟨(35 : UInt32), (0 : UInt32), (0 : UInt32), (0 : UInt32)⟩ : Dg) ((List.range k).map (link1 seed))).c, w32 (tied (⟨(35 : UInt32), (0 : UInt32), (0 : UInt32), (0 : UInt32)⟩ : Dg) ((List.range k).map (link1 seed))).d]) (oT hO s3_7 rfl) (B3_7.ext' hR) rfl rfl (nB rfl) row_24 rfl eR
 exact Am s0_7 rfl fun _ => rfl
 exact Am s4_7 rfl fun _ => rfl
 exact Ad fun aq wq _ hO hR hT => does_retv (vs := #[i64 (k : Int)]) (cap := #[Value.pointer (some ⟨bd, 0, none⟩)]) call_78 (args1 (hT 11 rfl rfl)) (hT 10 rfl rfl) ((public1 seed k bd wq (hL.ext (E7.trans hR)) (hbbd_7.ext' hR)).mono fun v w2 h => ⟨h.2, h.1⟩)
 exact Ad fun aq wq _ hO hR hT => does_ret (vs := #[Dg.val (tied (⟨(35 : UInt32), (0 : UInt32), (0 : UInt32), (0 : UInt32)⟩ : Dg) ((List.range k).map (link1 seed))), Dg.val (link1 seed k)]) call_21 (args2 (hT 9 rfl rfl) (hT 12 rfl rfl)) rfl ((pair_ (tied (⟨(35 : UInt32), (0 : UInt32), (0 : UInt32), (0 : UInt32)⟩ : Dg) ((List.range k).map (link1 seed))) (link1 seed k) wq (hL.ext (E7.trans hR))).mono fun v w2 h => ⟨h.2, h.1⟩)
 intro a8 wd8 N8 D8 hO hR hA hU
 obtain ⟨_, _, _, _, t13, _⟩ := hA
 have E8 := E7.trans hR
 have s0_8 := oT hO s0_7 rfl
 have s2_8 := oT hO s2_7 rfl
 have s3_8 := oT hO s3_7 rfl
 have s6_8 := oT hO s6_7 rfl
 have hbbd_8 := hbbd_7.ext' hR
 have B2_8 := B2_7.ext' hR
 have B3_8 := B3_7.ext' hR
 have s13_8 : get a8 13 = Dg.val (pair (tied (⟨(35 : UInt32), (0 : UInt32), (0 : UInt32), (0 : UInt32)⟩ : Dg) ((List.range k).map (link1 seed))) (link1 seed k)) := t13
 clear E7 N7 D7 s0_7 s2_7 s3_7 s4_7 s6_7 hbbd_7 B2_7 B3_7
 refine tail_none rfl rfl (does_storeD (o := 0) (n := 4) (cs' := [w32 (pair (tied (⟨(35 : UInt32), (0 : UInt32), (0 : UInt32), (0 : UInt32)⟩ : Dg) ((List.range k).map (link1 seed))) (link1 seed k)).a, w32 (pair (tied (⟨(35 : UInt32), (0 : UInt32), (0 : UInt32), (0 : UInt32)⟩ : Dg) ((List.range k).map (link1 seed))) (link1 seed k)).b, w32 (pair (tied (⟨(35 : UInt32), (0 : UInt32), (0 : UInt32), (0 : UInt32)⟩ : Dg) ((List.range k).map (link1 seed))) (link1 seed k)).c, w32 (pair (tied (⟨(35 : UInt32), (0 : UInt32), (0 : UInt32), (0 : UInt32)⟩ : Dg) ((List.range k).map (link1 seed))) (link1 seed k)).d]) (V := Dg.val (pair (tied (⟨(35 : UInt32), (0 : UInt32), (0 : UInt32), (0 : UInt32)⟩ : Dg) ((List.range k).map (link1 seed))) (link1 seed k))) s3_8 s13_8 B3_8 (nB rfl) rfl siz_24 rfl rfl (fun wd9 hX hz B3_9 => ?_))
 have E9 := E8.since hX (fun k e => e ▸ fr_b3)
 have hbbd_9 := hbbd_8.ext hX ne_bd_b3
 have B2_9 := B2_8.ext hX ne_b2_b3
 clear hX hz E8 hbbd_8 B2_8 B3_8
 refine tail_nil ?_
 refine Rl [] [(14, Pr.ex (i64 ((k + 1 : Nat) : Int)))] 1 N8 D8 ?_ ?_
 refine Ac ?_ (Az _)
 exact Ap fun aq wq _ hO hR hT => does_add (a := (k : Int)) (b := ((1 : Nat) : Int)) (r := ((k + 1 : Nat) : Int)) (oT hO s6_8 rfl) rfl (by omega) (by omega) (by omega) eR
 intro a10 wd10 N10 D10 hO hR hA hU
 obtain ⟨t14, _⟩ := hA
 have E10 := E9.trans hR
 have s0_10 := oT hO s0_8 rfl
 have s2_10 := oT hO s2_8 rfl
 have s3_10 := oT hO s3_8 rfl
 have s6_10 := oT hO s6_8 rfl
 have hbbd_10 := hbbd_9.ext' hR
 have B2_10 := B2_9.ext' hR
 have B3_10 := B3_9.ext' hR
 have s14_10 : get a10 14 = i64 ((k + 1 : Nat) : Int) := t14
 clear E9 N8 D8 s0_8 s2_8 s3_8 s6_8 s13_8 hbbd_9 B2_9 B3_9
 refine tail_put rfl rfl N10 D10 (by decide) (does_move (V := i64 ((k + 1 : Nat) : Int)) s14_10 (fun a11 N11 D11 hv hO => ?_))
 have s6_11 := hv
 have s0_11 := oT hO s0_10 rfl
 have s2_11 := oT hO s2_10 rfl
 have s3_11 := oT hO s3_10 rfl
 clear hO hv N10 D10 s0_10 s2_10 s3_10 s14_10 s6_10
 refine tail_nil ?_
 exact ⟨_, by omega, k + 1, rfl, N11, D11, s0_11, s2_11, s3_11, s6_11, E10, hbbd_10, B2_10, (by have h := B3_10; rw [tied_step (f := link1 seed) (k := k) rfl] at h; exact h), by omega⟩
 have hc0 := of_decide_eq_false hc0
 refine wp_exit ?_
 refine wp_seq ?_
 refine Rl [] [(15, Pr.ex (Dg.val (tied (⟨(35 : UInt32), (0 : UInt32), (0 : UInt32), (0 : UInt32)⟩ : Dg) ((List.range k).map (link1 seed)))))] 1 N6 D6 ?_ ?_
 refine Ac ?_ (Az _)
 exact Ap fun aq wq _ hO hR hT => does_loadD (o := 0) (n := 4) (mid := [w32 (tied (⟨(35 : UInt32), (0 : UInt32), (0 : UInt32), (0 : UInt32)⟩ : Dg) ((List.range k).map (link1 seed))).a, w32 (tied (⟨(35 : UInt32), (0 : UInt32), (0 : UInt32), (0 : UInt32)⟩ : Dg) ((List.range k).map (link1 seed))).b, w32 (tied (⟨(35 : UInt32), (0 : UInt32), (0 : UInt32), (0 : UInt32)⟩ : Dg) ((List.range k).map (link1 seed))).c, w32 (tied (⟨(35 : UInt32), (0 : UInt32), (0 : UInt32), (0 : UInt32)⟩ : Dg) ((List.range k).map (link1 seed))).d]) (oT hO s3_6 rfl) (B3_6.ext' hR) rfl rfl (nB rfl) row_24 rfl eR
 intro a12 wd12 N12 D12 hO hR hA hU
 obtain ⟨t15, _⟩ := hA
 have E12 := E6.trans hR
 have s2_12 := oT hO s2_6 rfl
 have hbbd_12 := hbbd_6.ext' hR
 have B2_12 := B2_6.ext' hR
 have B3_12 := B3_6.ext' hR
 have s15_12 : get a12 15 = Dg.val (tied (⟨(35 : UInt32), (0 : UInt32), (0 : UInt32), (0 : UInt32)⟩ : Dg) ((List.range k).map (link1 seed))) := t15
 clear E6 N6 D6 s0_6 s2_6 s3_6 s6_6 s7_6 hbbd_6 B2_6 B3_6
 refine tail_none rfl rfl (does_storeD (o := 0) (n := 4) (cs' := [w32 (tied (⟨(35 : UInt32), (0 : UInt32), (0 : UInt32), (0 : UInt32)⟩ : Dg) ((List.range k).map (link1 seed))).a, w32 (tied (⟨(35 : UInt32), (0 : UInt32), (0 : UInt32), (0 : UInt32)⟩ : Dg) ((List.range k).map (link1 seed))).b, w32 (tied (⟨(35 : UInt32), (0 : UInt32), (0 : UInt32), (0 : UInt32)⟩ : Dg) ((List.range k).map (link1 seed))).c, w32 (tied (⟨(35 : UInt32), (0 : UInt32), (0 : UInt32), (0 : UInt32)⟩ : Dg) ((List.range k).map (link1 seed))).d]) (V := Dg.val (tied (⟨(35 : UInt32), (0 : UInt32), (0 : UInt32), (0 : UInt32)⟩ : Dg) ((List.range k).map (link1 seed)))) s2_12 s15_12 B2_12 (nB rfl) rfl siz_24 rfl rfl (fun wd13 hX hz B2_13 => ?_))
 have E13 := E12.since hX (fun k e => e ▸ fr_b2)
 have hbbd_13 := hbbd_12.ext hX ne_bd_b2
 have B3_13 := B3_12.ext hX ne_b2_b3.symm
 clear hX hz E12 hbbd_12 B2_12 B3_12
 refine tail_nil ?_
 refine wp_ret ?_
 refine res_one (V := Dg.val (tied (⟨(35 : UInt32), (0 : UInt32), (0 : UInt32), (0 : UInt32)⟩ : Dg) ((List.range k).map (link1 seed)))) rfl D12 (ResIs.cell s2_12 B2_13 row_24 rfl rfl) ?_
 have hk35 : k = 35 := by omega
 subst hk35
 exact ⟨by show Dg.val _ = Dg.val _; rw [lone_eq], E13⟩

theorem public_ (seed : Dg) (w0 : World) (hL : Laid w0) :
    Gives Tryd.prog 52 #[Dg.val (seed)] w0 (Pr.ex (Dg.val (Sd.lone seed))) := by
 refine enter (N := 5) Tryd.func52 rfl rfl ?_
 intro a0 N0 D0 hA
 have s0_0 : get a0 0 = Dg.val (seed) := hA 0 _ rfl
 clear hA
 have E0 : Ext w0 w0 := Ext.refl w0
 refine wp_seq ?_
 refine Rl [1, 2] [(1, Pr.box' w0.heap.size 24 [w32 (seed).a, w32 (seed).b, w32 (seed).c, w32 (seed).d]), (2, Pr.box' w0.heap.size 24 [w32 (Dg.zero).a, w32 (Dg.zero).b, w32 (Dg.zero).c, w32 (Dg.zero).d])] 2 N0 D0 ?_ ?_
 refine Ac ?_ (Ac ?_ (Az _))
 refine Ask.fresh rfl rfl ?_
 intro aq wq hNq hO hR hT
 exact does_box (V := Dg.val (seed)) (oT hO s0_0 rfl) (fun b w2 he hlo hb => ⟨he, ⟨b, rfl, Nat.le_trans hR.size' hlo, hb⟩, ⟨b, rfl, hlo, hb.lt⟩⟩)
 refine Ask.fresh rfl rfl ?_
 intro aq wq hNq hO hR hT
 exact does_alloc zero_24 (fun b w2 he hlo hb => ⟨he, ⟨b, rfl, Nat.le_trans hR.size' hlo, hb⟩, ⟨b, rfl, hlo, hb.lt⟩⟩)
 intro a1 wd1 N1 D1 hO hR hA hU
 obtain ⟨t1, t2, _⟩ := hA
 have E1 := E0.trans hR
 obtain ⟨b1, s1_1, lo_b1, B1_1⟩ := t1
 have fr_b1 : w0.heap.size ≤ b1 := Nat.le_trans E0.size' lo_b1
 obtain ⟨b2, s2_1, lo_b2, B2_1⟩ := t2
 have fr_b2 : w0.heap.size ≤ b2 := Nat.le_trans E0.size' lo_b2
 obtain ⟨u0, ⟨u1, _⟩⟩ := hU
 have ne_b1_b2 : b1 ≠ b2 := fun e => u0 2 (by decide) (by rw [s1_1, s2_1, e])
 clear E0 N0 D0 s0_0
 refine tail_nil ?_
 refine wp_seq ?_
 refine Rl [] [(3, Pr.ex (Value.func (.func 78) #[] #[Value.pointer (some ⟨b1, 0, none⟩)])), (4, Pr.ex (Dg.val (Sd.lone seed)))] 2 N1 D1 ?_ ?_
 refine Ac ?_ (Ac ?_ (Az _))
 exact Ap fun aq wq _ hO hR hT => does_makeFunc (vs := #[Value.pointer (some ⟨b1, 0, none⟩)]) (args1 (oT hO s1_1 rfl)) eR
 exact Ap fun aq wq _ hO hR hT => does_ret (vs := #[Value.func (.func 78) #[] #[Value.pointer (some ⟨b1, 0, none⟩)]]) call_64 (args1 (hT 3 rfl rfl)) rfl ((ends2 seed b1 wq (hL.ext (E1.trans hR)) (B1_1.ext' hR)).mono fun v w2 h => ⟨h.2, h.1⟩)
 intro a2 wd2 N2 D2 hO hR hA hU
 obtain ⟨_, t4, _⟩ := hA
 have E2 := E1.trans hR
 have s2_2 := oT hO s2_1 rfl
 have B1_2 := B1_1.ext' hR
 have B2_2 := B2_1.ext' hR
 have s4_2 : get a2 4 = Dg.val (Sd.lone seed) := t4
 clear E1 N1 D1 s1_1 s2_1 B1_1 B2_1
 refine tail_none rfl rfl (does_storeD (o := 0) (n := 4) (cs' := [w32 (Sd.lone seed).a, w32 (Sd.lone seed).b, w32 (Sd.lone seed).c, w32 (Sd.lone seed).d]) (V := Dg.val (Sd.lone seed)) s2_2 s4_2 B2_2 (nB rfl) rfl siz_24 rfl rfl (fun wd3 hX hz B2_3 => ?_))
 have E3 := E2.since hX (fun k e => e ▸ fr_b2)
 have B1_3 := B1_2.ext hX ne_b1_b2
 clear hX hz E2 B1_2 B2_2
 refine tail_nil ?_
 refine wp_ret ?_
 refine res_one (V := Dg.val (Sd.lone seed)) rfl D2 (ResIs.cell s2_2 B2_3 row_24 rfl rfl) ?_
 exact ⟨rfl, E3⟩

end Go.Proofs.YtmmghpbncejfiaaDoor
