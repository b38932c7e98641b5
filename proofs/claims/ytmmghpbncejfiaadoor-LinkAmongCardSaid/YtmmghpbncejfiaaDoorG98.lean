/- The walks of functions of the program: printed. -/
import Derived.Test.YtmmghpbncejfiaaDoorKB
import Derived.Test.YtmmghpbncejfiaaDoorG3
import Derived.Test.YtmmghpbncejfiaaDoorG4
import Derived.Test.YtmmghpbncejfiaaDoorG6
import Derived.Test.YtmmghpbncejfiaaDoorG60
import Derived.Test.YtmmghpbncejfiaaDoorG65
import Derived.Test.YtmmghpbncejfiaaDoorF0
set_option maxRecDepth 100000
namespace Go.Proofs.YtmmghpbncejfiaaDoor
open Go Go.RowKit Sk Sd
theorem beginR (seed : Dg) (i : Nat) (w0 : World) :
    Gives Tryd.prog 76 #[Dg.val (seed), i64 (i : Int)] w0 (Pr.ex (Dg.val (Sd.start seed i))) := by
 refine enter (N := 10) Tryd.func76 rfl rfl ?_
 intro a0 N0 D0 hA
 have s0_0 : get a0 0 = Dg.val (seed) := hA 0 _ rfl
 have s1_0 : get a0 1 = i64 (i : Int) := hA 1 _ rfl
 clear hA
 have E0 : Ext w0 w0 := Ext.refl w0
 refine wp_seq ?_
 refine Rl [2, 4] [(2, Pr.box' w0.heap.size 24 [w32 (seed).a, w32 (seed).b, w32 (seed).c, w32 (seed).d]), (4, Pr.box' w0.heap.size 24 [w32 (Dg.zero).a, w32 (Dg.zero).b, w32 (Dg.zero).c, w32 (Dg.zero).d])] 2 N0 D0 ?_ ?_
 refine Ac ?_ (Ac ?_ (Az _))
 refine Ask.fresh rfl rfl ?_
 intro aq wq hNq hO hR hT
 exact does_box (V := Dg.val (seed)) (oT hO s0_0 rfl) (fun b w2 he hlo hb => ⟨he, ⟨b, rfl, Nat.le_trans hR.size' hlo, hb⟩, ⟨b, rfl, hlo, hb.lt⟩⟩)
 refine Ask.fresh rfl rfl ?_
 intro aq wq hNq hO hR hT
 exact does_alloc zero_24 (fun b w2 he hlo hb => ⟨he, ⟨b, rfl, Nat.le_trans hR.size' hlo, hb⟩, ⟨b, rfl, hlo, hb.lt⟩⟩)
 intro a1 wd1 N1 D1 hO hR hA hU
 obtain ⟨t2, t4, _⟩ := hA
 have E1 := E0.trans hR
 have s1_1 := oT hO s1_0 rfl
 obtain ⟨b2, s2_1, lo_b2, B2_1⟩ := t2
 have fr_b2 : w0.heap.size ≤ b2 := Nat.le_trans E0.size' lo_b2
 obtain ⟨b4, s4_1, lo_b4, B4_1⟩ := t4
 have fr_b4 : w0.heap.size ≤ b4 := Nat.le_trans E0.size' lo_b4
 obtain ⟨u0, ⟨u1, _⟩⟩ := hU
 have ne_b2_b4 : b2 ≠ b4 := fun e => u0 4 (by decide) (by rw [s2_1, s4_1, e])
 clear E0 N0 D0 s0_0 s1_0
 refine tail_nil ?_
 refine wp_seq ?_
 refine Rl [] [(5, Pr.ex (Dg.val (seed))), (6, Pr.ex (i64 (i : Int))), (7, Pr.ex (w32 (UInt32.ofNat i))), (8, Pr.ex (Dg.val ((⟨UInt32.ofNat i, 0, 0, 0⟩ : Dg)))), (9, Pr.ex (Dg.val (pair seed ((⟨UInt32.ofNat i, 0, 0, 0⟩ : Dg)))))] 5 N1 D1 ?_ ?_
 refine Ac ?_ (Ac ?_ (Ac ?_ (Ac ?_ (Ac ?_ (Az _)))))
 exact Ap fun aq wq _ hO hR hT => does_loadD (o := 0) (n := 4) (mid := [w32 (seed).a, w32 (seed).b, w32 (seed).c, w32 (seed).d]) (oT hO s2_1 rfl) (B2_1.ext' hR) rfl rfl (nB rfl) row_24 rfl eR
 exact Am s1_1 rfl fun _ => rfl
 exact Ap fun aq wq _ hO hR hT => does_conv ⟨_, Tryd.underlying3⟩ Tryd.underlying22 (hT 6 rfl rfl) (wrap_u32 _) eR
 exact Ap fun aq wq _ hO hR hT => does_build (vs := #[(0, w32 (UInt32.ofNat i))]) (V := Dg.val ((⟨UInt32.ofNat i, 0, 0, 0⟩ : Dg))) (parts1 (hT 7 rfl rfl)) (by kernel_rfl) eR
 exact Ap fun aq wq _ hO hR hT => does_ret (vs := #[Dg.val (seed), Dg.val ((⟨UInt32.ofNat i, 0, 0, 0⟩ : Dg))]) call_23 (args2 (hT 5 rfl rfl) (hT 8 rfl rfl)) rfl ((pairR (seed) ((⟨UInt32.ofNat i, 0, 0, 0⟩ : Dg)) wq).mono fun v w2 h => ⟨h.2, h.1⟩)
 intro a2 wd2 N2 D2 hO hR hA hU
 obtain ⟨_, _, _, _, t9, _⟩ := hA
 have E2 := E1.trans hR
 have s4_2 := oT hO s4_1 rfl
 have B2_2 := B2_1.ext' hR
 have B4_2 := B4_1.ext' hR
 have s9_2 : get a2 9 = Dg.val (pair seed ((⟨UInt32.ofNat i, 0, 0, 0⟩ : Dg))) := t9
 clear E1 N1 D1 s1_1 s2_1 s4_1 B2_1 B4_1
 refine tail_none rfl rfl (does_storeD (o := 0) (n := 4) (cs' := [w32 (pair seed ((⟨UInt32.ofNat i, 0, 0, 0⟩ : Dg))).a, w32 (pair seed ((⟨UInt32.ofNat i, 0, 0, 0⟩ : Dg))).b, w32 (pair seed ((⟨UInt32.ofNat i, 0, 0, 0⟩ : Dg))).c, w32 (pair seed ((⟨UInt32.ofNat i, 0, 0, 0⟩ : Dg))).d]) (V := Dg.val (pair seed ((⟨UInt32.ofNat i, 0, 0, 0⟩ : Dg)))) s4_2 s9_2 B4_2 (nB rfl) rfl siz_24 rfl rfl (fun wd3 hX hz B4_3 => ?_))
 have E3 := E2.since hX (fun k e => e ▸ fr_b4)
 have B2_3 := B2_2.ext hX ne_b2_b4
 clear hX hz E2 B2_2 B4_2
 refine tail_nil ?_
 refine wp_ret ?_
 refine res_one (V := Dg.val (pair seed ((⟨UInt32.ofNat i, 0, 0, 0⟩ : Dg)))) rfl D2 (ResIs.cell s4_2 B4_3 row_24 rfl rfl) ?_
 exact ⟨rfl, E3⟩

theorem publicR (seed : Dg) (w0 : World) :
    Gives Tryd.prog 74 #[Dg.val (seed)] w0 (Pr.ex (Dg.val (Sd.lone seed))) := by
 refine enter (N := 18) Tryd.func74 rfl rfl ?_
 intro a0 N0 D0 hA
 have s0_0 : get a0 0 = Dg.val (seed) := hA 0 _ rfl
 clear hA
 have E0 : Ext w0 w0 := Ext.refl w0
 refine wp_seq ?_
 refine Rl [1, 2] [(1, Pr.box' w0.heap.size 24 [w32 (seed).a, w32 (seed).b, w32 (seed).c, w32 (seed).d]), (2, Pr.box' w0.heap.size 24 [w32 (Dg.zero).a, w32 (Dg.zero).b, w32 (Dg.zero).c, w32 (Dg.zero).d])] 2 N0 D0 ?_ ?_
 refine Ac ?_ (Ac ?_ (Az _))
 refine Ask.fresh rfl rfl ?_
 intro aq wq hNq hO hR hT
 exact does_box (V := Dg.val (seed)) (oT hO s0_0 rfl) (fun b w2 he hlo hb => ⟨he, ⟨b, rfl, Nat.le_trans hR.size' hlo, hb⟩, ⟨b, rfl, hlo, hb.lt⟩⟩)
 refine Ask.fresh rfl rfl ?_
 intro aq wq hNq hO hR hT
 exact does_alloc zero_24 (fun b w2 he hlo hb => ⟨he, ⟨b, rfl, Nat.le_trans hR.size' hlo, hb⟩, ⟨b, rfl, hlo, hb.lt⟩⟩)
 intro a1 wd1 N1 D1 hO hR hA hU
 obtain ⟨t1, t2, _⟩ := hA
 have E1 := E0.trans hR
 obtain ⟨b1, s1_1, lo_b1, B1_1⟩ := t1
 have fr_b1 : w0.heap.size ≤ b1 := Nat.le_trans E0.size' lo_b1
 obtain ⟨b2, s2_1, lo_b2, B2_1⟩ := t2
 have fr_b2 : w0.heap.size ≤ b2 := Nat.le_trans E0.size' lo_b2
 obtain ⟨u0, ⟨u1, _⟩⟩ := hU
 have ne_b1_b2 : b1 ≠ b2 := fun e => u0 2 (by decide) (by rw [s1_1, s2_1, e])
 clear E0 N0 D0 s0_0
 refine tail_nil ?_
 refine wp_seq ?_
 refine Rl [] [(3, Pr.ex (Value.slice none 0 0))] 1 N1 D1 ?_ ?_
 refine Ac ?_ (Az _)
 exact Ap fun aq wq _ hO hR hT => does_assign (V := Value.slice none 0 0) rfl eR
 intro a2 wd2 N2 D2 hO hR hA hU
 obtain ⟨t3, _⟩ := hA
 have E2 := E1.trans hR
 have s1_2 := oT hO s1_1 rfl
 have s2_2 := oT hO s2_1 rfl
 have B1_2 := B1_1.ext' hR
 have B2_2 := B2_1.ext' hR
 have s3_2 : get a2 3 = Value.slice none 0 0 := t3
 clear E1 N1 D1 s1_1 s2_1 B1_1 B2_1
 refine tail_nil ?_
 refine wp_seq ?_
 refine wp_seq ?_
 refine Rl [] [(4, Pr.ex (i64 ((0 : Nat) : Int)))] 1 N2 D2 ?_ ?_
 refine Ac ?_ (Az _)
 exact Ap fun aq wq _ hO hR hT => does_assign (V := i64 ((0 : Nat) : Int)) rfl eR
 intro a3 wd3 N3 D3 hO hR hA hU
 obtain ⟨t4, _⟩ := hA
 have E3 := E2.trans hR
 have s1_3 := oT hO s1_2 rfl
 have s2_3 := oT hO s2_2 rfl
 have s3_3 := oT hO s3_2 rfl
 have B1_3 := B1_2.ext' hR
 have B2_3 := B2_2.ext' hR
 have s4_3 : get a3 4 = i64 ((0 : Nat) : Int) := t4
 clear E2 N2 D2 s1_2 s2_2 s3_2 B1_2 B2_2
 refine tail_nil ?_
 refine wp_block ?_
 refine loop_g (fun mz az wz => ∃ k : Nat, ∃ xo : Value, mz = 35 - k ∧ (az.tmps.size = 18) ∧ (az.defers = []) ∧ (get az 1 = Value.pointer (some ⟨b1, 0, none⟩)) ∧ (get az 2 = Value.pointer (some ⟨b2, 0, none⟩)) ∧ (get az 3 = xo) ∧ (get az 4 = i64 (k : Int)) ∧ (Ext w0 wz) ∧ (Has wz b1 24 [w32 (seed).a, w32 (seed).b, w32 (seed).c, w32 (seed).d]) ∧ (Has wz b2 24 [w32 (Dg.zero).a, w32 (Dg.zero).b, w32 (Dg.zero).c, w32 (Dg.zero).d]) ∧ (OwnT DG w0.heap.size 24 ((List.range k).map (link1 seed)) xo wz) ∧ (xo.ownBlock ≠ some b1) ∧ (xo.ownBlock ≠ some b2) ∧ (k ≤ 35)) ?_ ?_
 exact ⟨_, 0, (Value.slice none 0 0), rfl, N3, D3, s1_3, s2_3, s3_3, s4_3, E3, B1_3, B2_3, (OwnT.nil DG w0.heap.size 24 _), (by intro e; cases e), (by intro e; cases e), Nat.zero_le _⟩
 rintro mz a4 wd4 ⟨k, xo, rfl, N4, D4, s1_4, s2_4, s3_4, s4_4, E4, B1_4, B2_4, hoxo_4, nbo_xo_b1, nbo_xo_b2, hkk⟩
 have hsxo_4 := hoxo_4.sl.wide (Nat.zero_le _) (.inl rfl)
 refine wp_seq ?_
 refine wp_seq ?_
 refine Rl [] [(5, Pr.ex (i64 (k : Int))), (6, Pr.ex (Value.bool (decide ((k : Int) < ((35 : Nat) : Int)))))] 2 N4 D4 ?_ ?_
 refine Ac ?_ (Ac ?_ (Az _))
 exact Am s4_4 rfl fun _ => rfl
 exact Ap fun aq wq _ hO hR hT => does_lss (a := (k : Int)) (b := ((35 : Nat) : Int)) (hT 5 rfl rfl) rfl eR
 intro a5 wd5 N5 D5 hO hR hA hU
 obtain ⟨_, t6, _⟩ := hA
 have E5 := E4.trans hR
 have s1_5 := oT hO s1_4 rfl
 have s2_5 := oT hO s2_4 rfl
 have s3_5 := oT hO s3_4 rfl
 have s4_5 := oT hO s4_4 rfl
 have B1_5 := B1_4.ext' hR
 have B2_5 := B2_4.ext' hR
 have hsxo_5 := hsxo_4.ext' hR
 have hoxo_5 := hoxo_4.ext' hR
 have s6_5 : get a5 6 = Value.bool (decide ((k : Int) < ((35 : Nat) : Int))) := t6
 clear E4 N4 D4 s1_4 s2_4 s3_4 s4_4 B1_4 B2_4 hsxo_4 hoxo_4
 refine tail_nil ?_
 refine wp_if (B := decide ((k : Int) < ((35 : Nat) : Int))) s6_5 (fun hc0 => ?_) (fun hc0 => ?_)
 have hc0 := of_decide_eq_true hc0
 refine wp_skip ?_
 refine wp_seq ?_
 refine wp_block ?_
 refine Rl [] [(9, Pr.ex (xo)), (10, Pr.ex (Dg.val (seed))), (11, Pr.ex (i64 (k : Int))), (12, Pr.ex (Dg.val (Sd.start seed k))), (13, Pr.ex (Dg.val (walk (Sd.start seed k) 15))), (14, Pr.own' DG wd5.heap.size 24 ([walk (Sd.start seed k) 15]))] 6 N5 D5 ?_ ?_
 refine Ac ?_ (Ac ?_ (Ac ?_ (Ac ?_ (Ac ?_ (Ac ?_ (Az _))))))
 exact Am s3_5 rfl fun _ => rfl
 exact Ap fun aq wq _ hO hR hT => does_loadD (o := 0) (n := 4) (mid := [w32 (seed).a, w32 (seed).b, w32 (seed).c, w32 (seed).d]) (oT hO s1_5 rfl) (B1_5.ext' hR) rfl rfl (nB rfl) row_24 rfl eR
 exact Am s4_5 rfl fun _ => rfl
 exact Ap fun aq wq _ hO hR hT => does_ret (vs := #[Dg.val (seed), i64 (k : Int)]) call_76 (args2 (hT 10 rfl rfl) (hT 11 rfl rfl)) rfl ((beginR seed k wq).mono fun v w2 h => ⟨h.2, h.1⟩)
 exact Ap fun aq wq _ hO hR hT => does_ret (vs := #[Dg.val (Sd.start seed k), i64 ((15 : Nat) : Int)]) call_70 (args2 (hT 12 rfl rfl) rfl) rfl ((walkR (Sd.start seed k) (15) wq (by omega)).mono fun v w2 h => ⟨h.2, h.1⟩)
 exact Ap fun aq wq _ hO hR hT => does_slice1 (T := DG) (X := walk (Sd.start seed k) 15) (V := Dg.val (walk (Sd.start seed k) 15)) app_27 rfl (by decide) (hT 13 rfl rfl) rfl (fun v w2 he _ ho => ⟨he, OwnT.base ho hR.size'⟩)
 intro a6 wd6 N6 D6 hO hR hA hU
 obtain ⟨t9, _, _, _, _, t14, _⟩ := hA
 have E6 := E5.trans hR
 have s1_6 := oT hO s1_5 rfl
 have s2_6 := oT hO s2_5 rfl
 have s3_6 := oT hO s3_5 rfl
 have s4_6 := oT hO s4_5 rfl
 have B1_6 := B1_5.ext' hR
 have B2_6 := B2_5.ext' hR
 have hsxo_6 := hsxo_5.ext' hR
 have hoxo_6 := hoxo_5.ext' hR
 have s9_6 : get a6 9 = xo := t9
 obtain ⟨x14, s14_6⟩ : ∃ x, get a6 14 = x := ⟨_, rfl⟩
 replace t14 : OwnT DG wd5.heap.size 24 ([walk (Sd.start seed k) 15]) x14 wd6 := by rw [← s14_6]; exact t14
 have nbo_x14_b1 := Ob1 t14 B1_5
 have nbo_x14_b2 := Ob1 t14 B2_5
 have no_x14_xo := Oo t14 hoxo_5
 have X14_6 := t14.sl.wide (Nat.zero_le _) (.inl rfl)
 have O14_6 := OwnT.base t14 E5.size'
 clear E5 N5 D5 s1_5 s2_5 s3_5 s4_5 s6_5 B1_5 B2_5 hsxo_5 hoxo_5
 refine tail_put rfl rfl N6 D6 (by decide) (does_append (T := DG) (base := w0.heap.size) (xs := (List.range k).map (link1 seed)) (ys := [walk (Sd.start seed k) 15]) (v := xo) app_27 s9_6 hoxo_6 (SlT.at s14_6 X14_6) (by simp) (by simp only [List.length_map, List.length_range, List.length_cons, List.length_nil]; omega) (by simp only [List.length_map, List.length_range, List.length_cons, List.length_nil]; omega) E6.size' (fun x15 wd7 hX O15_7 hk a7 N7 D7 hv hO => ?_))
 have E7 := E6.since hX (fun b hb => Nat.le_trans (Nat.le_refl _) (OwnT.block_lt hoxo_6 hb).1)
 have B1_7 := B1_6.ext hX nbo_xo_b1
 have nbo_x15_b1 : x15.ownBlock ≠ some b1 := fun e => (hk _ e).elim nbo_xo_b1 (fun h => Nat.lt_irrefl _ (Nat.lt_of_lt_of_le B1_6.lt h))
 have B2_7 := B2_6.ext hX nbo_xo_b2
 have nbo_x15_b2 : x15.ownBlock ≠ some b2 := fun e => (hk _ e).elim nbo_xo_b2 (fun h => Nat.lt_irrefl _ (Nat.lt_of_lt_of_le B2_6.lt h))
 have O14_7 := OwnT.ext O14_6 hX (fun k hk e => no_x14_xo k hk e)
 have no_x15_x14 : ∀ k, x15.ownBlock = some k → x14.ownBlock ≠ some k := fun k e e' => (hk k e).elim (fun h => no_x14_xo k e' h) (fun h => Nat.lt_irrefl _ (Nat.lt_of_lt_of_le (OwnT.block_lt O14_6 e').2 h))
 have X14_7 := O14_7.sl.wide (Nat.zero_le _) (.inl rfl)
 have X15_7 := O15_7.sl.wide (Nat.zero_le _) (.inl rfl)
 rw [(show (List.range k).map (link1 seed) ++ [walk (Sd.start seed k) 15] = (List.range (k + 1)).map (link1 seed) from range_step rfl)] at O15_7 X15_7
 have s15_7 := hv
 have s1_7 := oT hO s1_6 rfl
 have s2_7 := oT hO s2_6 rfl
 have s3_7 := oT hO s3_6 rfl
 have s4_7 := oT hO s4_6 rfl
 clear hO hv hX hk N6 D6 E6 B1_6 B2_6 O14_6 s1_6 s2_6 s3_6 s4_6 s9_6 s14_6
 refine tail_put rfl rfl N7 D7 (by decide) (does_assign (V := x15) s15_7 (fun a8 N8 D8 hv hO => ?_))
 have s3_8 := hv
 have s1_8 := oT hO s1_7 rfl
 have s2_8 := oT hO s2_7 rfl
 have s4_8 := oT hO s4_7 rfl
 clear hO hv N7 D7 s1_7 s2_7 s4_7 s15_7 s3_7
 refine tail_nil ?_
 refine Rl [] [(7, Pr.ex (i64 (k : Int))), (8, Pr.ex (i64 ((k + 1 : Nat) : Int)))] 2 N8 D8 ?_ ?_
 refine Ac ?_ (Ac ?_ (Az _))
 exact Am s4_8 rfl fun _ => rfl
 exact Ap fun aq wq _ hO hR hT => does_add (a := (k : Int)) (b := ((1 : Nat) : Int)) (r := ((k + 1 : Nat) : Int)) (hT 7 rfl rfl) rfl (by omega) (by omega) (by omega) eR
 intro a9 wd9 N9 D9 hO hR hA hU
 obtain ⟨_, t8, _⟩ := hA
 have E9 := E7.trans hR
 have s1_9 := oT hO s1_8 rfl
 have s2_9 := oT hO s2_8 rfl
 have s3_9 := oT hO s3_8 rfl
 have s4_9 := oT hO s4_8 rfl
 have B1_9 := B1_7.ext' hR
 have B2_9 := B2_7.ext' hR
 have X14_9 := X14_7.ext' hR
 have X15_9 := X15_7.ext' hR
 have O14_9 := O14_7.ext' hR
 have O15_9 := O15_7.ext' hR
 have s8_9 : get a9 8 = i64 ((k + 1 : Nat) : Int) := t8
 clear E7 N8 D8 s1_8 s2_8 s3_8 s4_8 B1_7 B2_7 X14_7 X15_7 O14_7 O15_7
 refine tail_put rfl rfl N9 D9 (by decide) (does_assign (V := i64 ((k + 1 : Nat) : Int)) s8_9 (fun a10 N10 D10 hv hO => ?_))
 have s4_10 := hv
 have s1_10 := oT hO s1_9 rfl
 have s2_10 := oT hO s2_9 rfl
 have s3_10 := oT hO s3_9 rfl
 clear hO hv N9 D9 s1_9 s2_9 s3_9 s8_9 s4_9
 refine tail_nil ?_
 exact ⟨_, by omega, k + 1, x15, rfl, N10, D10, s1_10, s2_10, s3_10, s4_10, E9, B1_9, B2_9, O15_9, nbo_x15_b1, nbo_x15_b2, by omega⟩
 have hc0 := of_decide_eq_false hc0
 have hk35 : k = 35 := by omega
 refine wp_exit ?_
 refine wp_seq ?_
 refine Rl [] [(16, Pr.ex (xo)), (17, Pr.ex (Dg.val (tied ⟨35, 0, 0, 0⟩ ((List.range k).map (link1 seed)))))] 2 N5 D5 ?_ ?_
 refine Ac ?_ (Ac ?_ (Az _))
 exact Am s3_5 rfl fun _ => rfl
 exact Ap fun aq wq _ hO hR hT => does_ret (vs := #[xo]) call_71 (args1 (hT 16 rfl rfl)) rfl ((ofEnds ((List.range k).map (link1 seed)) (xo) wq ((hsxo_5.ext' hR).wide (Nat.zero_le _) (.inl rfl)) (by simp only [List.length_map, List.length_range, List.length_cons, List.length_nil]; omega)).mono fun v w2 h => ⟨h.2, h.1⟩)
 intro a11 wd11 N11 D11 hO hR hA hU
 obtain ⟨_, t17, _⟩ := hA
 have E11 := E5.trans hR
 have s2_11 := oT hO s2_5 rfl
 have B1_11 := B1_5.ext' hR
 have B2_11 := B2_5.ext' hR
 have hsxo_11 := hsxo_5.ext' hR
 have hoxo_11 := hoxo_5.ext' hR
 have s17_11 : get a11 17 = Dg.val (tied ⟨35, 0, 0, 0⟩ ((List.range k).map (link1 seed))) := t17
 clear E5 N5 D5 s1_5 s2_5 s3_5 s4_5 s6_5 B1_5 B2_5 hsxo_5 hoxo_5
 refine tail_none rfl rfl (does_storeD (o := 0) (n := 4) (cs' := [w32 (tied ⟨35, 0, 0, 0⟩ ((List.range k).map (link1 seed))).a, w32 (tied ⟨35, 0, 0, 0⟩ ((List.range k).map (link1 seed))).b, w32 (tied ⟨35, 0, 0, 0⟩ ((List.range k).map (link1 seed))).c, w32 (tied ⟨35, 0, 0, 0⟩ ((List.range k).map (link1 seed))).d]) (V := Dg.val (tied ⟨35, 0, 0, 0⟩ ((List.range k).map (link1 seed)))) s2_11 s17_11 B2_11 (nB rfl) rfl siz_24 rfl rfl (fun wd12 hX hz B2_12 => ?_))
 have E12 := E11.since hX (fun k e => e ▸ fr_b2)
 have B1_12 := B1_11.ext hX ne_b1_b2
 have hsxo_12 := SlT.over hsxo_11 hX (fun _ => nbo_xo_b2)
 have hoxo_12 := OwnT.ext hoxo_11 hX (fun k hk e => nbo_xo_b2 (e ▸ hk))
 clear hX hz E11 B1_11 B2_11 hsxo_11 hoxo_11
 refine tail_nil ?_
 refine wp_ret ?_
 refine res_one (V := Dg.val (tied ⟨35, 0, 0, 0⟩ ((List.range k).map (link1 seed)))) rfl D11 (ResIs.cell s2_11 B2_12 row_24 rfl rfl) ?_
 subst hk35
 exact ⟨by show Dg.val _ = Dg.val _; rw [lone_eq], E12⟩

theorem seedR (seed : Dg) (i : Nat) (w0 : World) :
    Gives Tryd.prog 49 #[Dg.val (seed), i64 (i : Int)] w0 (Pr.ex (Dg.val (seedAt seed i))) := by
 refine enter (N := 19) Tryd.func49 rfl rfl ?_
 intro a0 N0 D0 hA
 have s0_0 : get a0 0 = Dg.val (seed) := hA 0 _ rfl
 have s1_0 : get a0 1 = i64 (i : Int) := hA 1 _ rfl
 clear hA
 have E0 : Ext w0 w0 := Ext.refl w0
 refine wp_seq ?_
 refine Rl [2, 4] [(2, Pr.box' w0.heap.size 24 [w32 (seed).a, w32 (seed).b, w32 (seed).c, w32 (seed).d]), (4, Pr.box' w0.heap.size 24 [w32 (Dg.zero).a, w32 (Dg.zero).b, w32 (Dg.zero).c, w32 (Dg.zero).d])] 2 N0 D0 ?_ ?_
 refine Ac ?_ (Ac ?_ (Az _))
 refine Ask.fresh rfl rfl ?_
 intro aq wq hNq hO hR hT
 exact does_box (V := Dg.val (seed)) (oT hO s0_0 rfl) (fun b w2 he hlo hb => ⟨he, ⟨b, rfl, Nat.le_trans hR.size' hlo, hb⟩, ⟨b, rfl, hlo, hb.lt⟩⟩)
 refine Ask.fresh rfl rfl ?_
 intro aq wq hNq hO hR hT
 exact does_alloc zero_24 (fun b w2 he hlo hb => ⟨he, ⟨b, rfl, Nat.le_trans hR.size' hlo, hb⟩, ⟨b, rfl, hlo, hb.lt⟩⟩)
 intro a1 wd1 N1 D1 hO hR hA hU
 obtain ⟨t2, t4, _⟩ := hA
 have E1 := E0.trans hR
 have s1_1 := oT hO s1_0 rfl
 obtain ⟨b2, s2_1, lo_b2, B2_1⟩ := t2
 have fr_b2 : w0.heap.size ≤ b2 := Nat.le_trans E0.size' lo_b2
 obtain ⟨b4, s4_1, lo_b4, B4_1⟩ := t4
 have fr_b4 : w0.heap.size ≤ b4 := Nat.le_trans E0.size' lo_b4
 obtain ⟨u0, ⟨u1, _⟩⟩ := hU
 have ne_b2_b4 : b2 ≠ b4 := fun e => u0 4 (by decide) (by rw [s2_1, s4_1, e])
 clear E0 N0 D0 s0_0 s1_0
 refine tail_nil ?_
 refine wp_seq ?_
 refine Rl [] [(5, Pr.ex (Value.pointer (some ⟨b2, 0, none⟩))), (6, Pr.ex (w32 ((seed).a))), (7, Pr.ex (Value.pointer (some ⟨b2, 1, none⟩))), (8, Pr.ex (w32 ((seed).b))), (9, Pr.ex (Value.pointer (some ⟨b2, 2, none⟩))), (10, Pr.ex (w32 ((seed).c))), (11, Pr.ex (Value.pointer (some ⟨b2, 3, none⟩))), (12, Pr.ex (w32 ((seed).d))), (13, Pr.ex (i64 (i : Int))), (14, Pr.ex (w32 (UInt32.ofNat i))), (15, Pr.own' W32 wd1.heap.size 22 ([(seed).a, (seed).b, (seed).c, (seed).d, UInt32.ofNat i])), (16, Pr.ex (str (wbytes [(seed).a, (seed).b, (seed).c, (seed).d, UInt32.ofNat i]))), (17, Pr.ex (str ((([107] : List UInt8)) ++ (wbytes [(seed).a, (seed).b, (seed).c, (seed).d, UInt32.ofNat i])))), (18, Pr.ex (Dg.val (of ((([107] : List UInt8)) ++ (wbytes [(seed).a, (seed).b, (seed).c, (seed).d, UInt32.ofNat i])))))] 14 N1 D1 ?_ ?_
 refine Ac ?_ (Ac ?_ (Ac ?_ (Ac ?_ (Ac ?_ (Ac ?_ (Ac ?_ (Ac ?_ (Ac ?_ (Ac ?_ (Ac ?_ (Ac ?_ (Ac ?_ (Ac ?_ (Az _))))))))))))))
 exact Ap fun aq wq _ hO hR hT => does_indexArr (k := .i64) (i := 0) (o' := 0) arr_24 (oT hO s2_1 rfl) rfl (by decide) (by decide) rfl eR
 exact Ap fun aq wq _ hO hR hT => does_loadD1 (o := 0) (V := w32 ((seed).a)) (hT 5 rfl rfl) (B2_1.ext' hR) rfl one_22 eR
 exact Ap fun aq wq _ hO hR hT => does_indexArr (k := .i64) (i := 1) (o' := 1) arr_24 (oT hO s2_1 rfl) rfl (by decide) (by decide) rfl eR
 exact Ap fun aq wq _ hO hR hT => does_loadD1 (o := 1) (V := w32 ((seed).b)) (hT 7 rfl rfl) (B2_1.ext' hR) rfl one_22 eR
 exact Ap fun aq wq _ hO hR hT => does_indexArr (k := .i64) (i := 2) (o' := 2) arr_24 (oT hO s2_1 rfl) rfl (by decide) (by decide) rfl eR
 exact Ap fun aq wq _ hO hR hT => does_loadD1 (o := 2) (V := w32 ((seed).c)) (hT 9 rfl rfl) (B2_1.ext' hR) rfl one_22 eR
 exact Ap fun aq wq _ hO hR hT => does_indexArr (k := .i64) (i := 3) (o' := 3) arr_24 (oT hO s2_1 rfl) rfl (by decide) (by decide) rfl eR
 exact Ap fun aq wq _ hO hR hT => does_loadD1 (o := 3) (V := w32 ((seed).d)) (hT 11 rfl rfl) (B2_1.ext' hR) rfl one_22 eR
 exact Am s1_1 rfl fun _ => rfl
 exact Ap fun aq wq _ hO hR hT => does_conv ⟨_, Tryd.underlying3⟩ Tryd.underlying22 (hT 13 rfl rfl) (wrap_u32 _) eR
 exact Ap fun aq wq _ hO hR hT => does_sliceN (T := W32) (xs := [(seed).a, (seed).b, (seed).c, (seed).d, UInt32.ofNat i]) (vs := [w32 ((seed).a), w32 ((seed).b), w32 ((seed).c), w32 ((seed).d), w32 (UInt32.ofNat i)]) app_58 rfl (parts5 (hT 6 rfl rfl) (hT 8 rfl rfl) (hT 10 rfl rfl) (hT 12 rfl rfl) (hT 14 rfl rfl)) rfl (by decide) (by decide) rfl (fun v w2 he _ ho => ⟨he, OwnT.base ho hR.size'⟩)
 exact Ap fun aq wq _ hO hR hT => does_ret (vs := #[get aq 15]) call_39 (args1 rfl) rfl ((bytesR ([(seed).a, (seed).b, (seed).c, (seed).d, UInt32.ofNat i]) (get aq 15) wq (((OwnT.sl (hT 15 rfl rfl)).wide (Nat.zero_le _) (.inl rfl)).wide (Nat.zero_le _) (.inl rfl)) (nB rfl)).mono fun v w2 h => ⟨h.2, h.1⟩)
 exact Ap fun aq wq _ hO hR hT => does_cat (a := ([107] : List UInt8)) (b := wbytes [(seed).a, (seed).b, (seed).c, (seed).d, UInt32.ofNat i]) rfl (hT 16 rfl rfl) (by simp only [List.length_append, List.length_cons, List.length_nil, List.length_replicate, bytes_length]; omega) eR
 exact Ap fun aq wq _ hO hR hT => does_ret (vs := #[str ((([107] : List UInt8)) ++ (wbytes [(seed).a, (seed).b, (seed).c, (seed).d, UInt32.ofNat i]))]) call_24 (args1 (hT 17 rfl rfl)) rfl ((ofR ((([107] : List UInt8)) ++ (wbytes [(seed).a, (seed).b, (seed).c, (seed).d, UInt32.ofNat i])) wq (by simp [bytes_length])).mono fun v w2 h => ⟨h.2, h.1⟩)
 intro a2 wd2 N2 D2 hO hR hA hU
 obtain ⟨_, _, _, _, _, _, _, _, _, _, _, _, _, t18, _⟩ := hA
 have E2 := E1.trans hR
 have s4_2 := oT hO s4_1 rfl
 have B2_2 := B2_1.ext' hR
 have B4_2 := B4_1.ext' hR
 have s18_2 : get a2 18 = Dg.val (of ((([107] : List UInt8)) ++ (wbytes [(seed).a, (seed).b, (seed).c, (seed).d, UInt32.ofNat i]))) := t18
 clear E1 N1 D1 s1_1 s2_1 s4_1 B2_1 B4_1
 refine tail_none rfl rfl (does_storeD (o := 0) (n := 4) (cs' := [w32 (of ((([107] : List UInt8)) ++ (wbytes [(seed).a, (seed).b, (seed).c, (seed).d, UInt32.ofNat i]))).a, w32 (of ((([107] : List UInt8)) ++ (wbytes [(seed).a, (seed).b, (seed).c, (seed).d, UInt32.ofNat i]))).b, w32 (of ((([107] : List UInt8)) ++ (wbytes [(seed).a, (seed).b, (seed).c, (seed).d, UInt32.ofNat i]))).c, w32 (of ((([107] : List UInt8)) ++ (wbytes [(seed).a, (seed).b, (seed).c, (seed).d, UInt32.ofNat i]))).d]) (V := Dg.val (of ((([107] : List UInt8)) ++ (wbytes [(seed).a, (seed).b, (seed).c, (seed).d, UInt32.ofNat i])))) s4_2 s18_2 B4_2 (nB rfl) rfl siz_24 rfl rfl (fun wd3 hX hz B4_3 => ?_))
 have E3 := E2.since hX (fun k e => e ▸ fr_b4)
 have B2_3 := B2_2.ext hX ne_b2_b4
 clear hX hz E2 B2_2 B4_2
 refine tail_nil ?_
 refine wp_ret ?_
 refine res_one (V := Dg.val (of ((([107] : List UInt8)) ++ (wbytes [(seed).a, (seed).b, (seed).c, (seed).d, UInt32.ofNat i])))) rfl D2 (ResIs.cell s4_2 B4_3 row_24 rfl rfl) ?_
 exact ⟨rfl, E3⟩

end Go.Proofs.YtmmghpbncejfiaaDoor
