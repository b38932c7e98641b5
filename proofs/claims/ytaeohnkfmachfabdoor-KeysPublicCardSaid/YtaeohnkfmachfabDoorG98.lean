/- The walks of functions of the program: printed. -/
import Derived.Test.YtaeohnkfmachfabDoorKB
import Derived.Test.YtaeohnkfmachfabDoorG3
import Derived.Test.YtaeohnkfmachfabDoorG4
import Derived.Test.YtaeohnkfmachfabDoorG6
import Derived.Test.YtaeohnkfmachfabDoorG60
import Derived.Test.YtaeohnkfmachfabDoorG65
import Derived.Test.YtaeohnkfmachfabDoorF0
set_option maxRecDepth 100000
namespace Go.Proofs.YtaeohnkfmachfabDoor
open Go Go.RowKit Sk Sd
theorem beginR (seed : Dg) (i : Nat) (w0 : World) :
    Gives Tryd.prog 40 #[Dg.val (seed), i64 ((i : Nat) : Int)] w0 (Pr.ex (Dg.val (Sd.start seed i))) := by
 refine enter (N := 10) Tryd.func40 rfl rfl ?_
 intro a0 hN_0 hD_0 hA
 have s0_0 : get a0 0 = Dg.val (seed) := hA 0 _ rfl
 have s1_0 : get a0 1 = i64 ((i : Nat) : Int) := hA 1 _ rfl
 clear hA
 have hE_0 : Ext w0 w0 := Ext.refl w0
 refine wp_seq ?_
 refine region_lex [2, 4] [(2, Pr.box' w0.heap.size 24 [w32 (seed).a, w32 (seed).b, w32 (seed).c, w32 (seed).d]), (4, Pr.box' w0.heap.size 24 [w32 (Dg.zero).a, w32 (Dg.zero).b, w32 (Dg.zero).c, w32 (Dg.zero).d])] 2 hN_0 hD_0 (by kernel_rfl) (by kernel_rfl) ?_ ?_
 refine Asks.cons ?_ (Asks.cons ?_ (Asks.zero _))
 refine Ask.fresh rfl rfl ?_
 intro aq wq hNq hO hR hT
 exact does_box (V := Dg.val (seed)) ((hO 0 rfl).trans s0_0) (fun b w2 he hlo hb => ⟨he, ⟨b, rfl, Nat.le_trans hR.size' hlo, hb⟩, ⟨b, rfl, hlo, hb.lt⟩⟩)
 refine Ask.fresh rfl rfl ?_
 intro aq wq hNq hO hR hT
 exact does_alloc zero_24 (fun b w2 he hlo hb => ⟨he, ⟨b, rfl, Nat.le_trans hR.size' hlo, hb⟩, ⟨b, rfl, hlo, hb.lt⟩⟩)
 intro a1 wd1 hN_1 hD_1 hO hR hA hU
 obtain ⟨t2, t4, _⟩ := hA
 have hE_1 := hE_0.trans hR
 have s1_1 := (hO 1 rfl).trans s1_0
 obtain ⟨b2, s2_1, lo_b2, hbb2_1⟩ := t2
 have fr_b2 : w0.heap.size ≤ b2 := Nat.le_trans hE_0.size' lo_b2
 obtain ⟨b4, s4_1, lo_b4, hbb4_1⟩ := t4
 have fr_b4 : w0.heap.size ≤ b4 := Nat.le_trans hE_0.size' lo_b4
 obtain ⟨u0, ⟨u1, _⟩⟩ := hU
 have ne_b2_b4 : b2 ≠ b4 := fun e => u0 4 (by decide) (by rw [s2_1, s4_1, e])
 clear hE_0 hN_0 hD_0 s0_0 s1_0
 refine tail_nil ?_
 refine wp_seq ?_
 refine region_lex [] [(5, Pr.ex (Dg.val (seed))), (6, Pr.ex (i64 ((i : Nat) : Int))), (7, Pr.ex (w32 (UInt32.ofNat i))), (8, Pr.ex (Dg.val ((⟨UInt32.ofNat i, 0, 0, 0⟩ : Dg)))), (9, Pr.ex (Dg.val (pair seed ((⟨UInt32.ofNat i, 0, 0, 0⟩ : Dg)))))] 5 hN_1 hD_1 (by kernel_rfl) (by kernel_rfl) ?_ ?_
 refine Asks.cons ?_ (Asks.cons ?_ (Asks.cons ?_ (Asks.cons ?_ (Asks.cons ?_ (Asks.zero _)))))
 exact Ask.plain rfl rfl fun aq wq hNq hO hR hT => does_loadD (o := 0) (n := 4) (mid := [w32 (seed).a, w32 (seed).b, w32 (seed).c, w32 (seed).d]) ((hO 2 rfl).trans s2_1) (hbb2_1.ext' hR) rfl rfl (Nat.le_of_ble_eq_true rfl) row_24 rfl ⟨Ext.refl _, rfl⟩
 exact Ask.plain rfl rfl fun aq wq hNq hO hR hT => does_move (V := i64 ((i : Nat) : Int)) ((hO 1 rfl).trans s1_1) ⟨Ext.refl _, rfl⟩
 exact Ask.plain rfl rfl fun aq wq hNq hO hR hT => does_conv ⟨_, Tryd.underlying3⟩ Tryd.underlying22 (hT 6 rfl rfl) (wrap_u32 _) ⟨Ext.refl _, rfl⟩
 exact Ask.plain rfl rfl fun aq wq hNq hO hR hT => does_build (vs := #[(0, w32 (UInt32.ofNat i))]) (V := Dg.val ((⟨UInt32.ofNat i, 0, 0, 0⟩ : Dg))) (parts1 (hT 7 rfl rfl)) (by kernel_rfl) ⟨Ext.refl _, rfl⟩
 exact Ask.plain rfl rfl fun aq wq hNq hO hR hT => does_ret (vs := #[Dg.val (seed), Dg.val ((⟨UInt32.ofNat i, 0, 0, 0⟩ : Dg))]) call_48 (args2 (hT 5 rfl rfl) (hT 8 rfl rfl)) rfl ((pairR (seed) ((⟨UInt32.ofNat i, 0, 0, 0⟩ : Dg)) wq).mono fun v w2 h => ⟨h.2, h.1⟩)
 intro a2 wd2 hN_2 hD_2 hO hR hA hU
 obtain ⟨_, _, _, _, t9, _⟩ := hA
 have hE_2 := hE_1.trans hR
 have s4_2 := (hO 4 rfl).trans s4_1
 have hbb2_2 := hbb2_1.ext' hR
 have hbb4_2 := hbb4_1.ext' hR
 have s9_2 : get a2 9 = Dg.val (pair seed ((⟨UInt32.ofNat i, 0, 0, 0⟩ : Dg))) := t9
 clear hE_1 hN_1 hD_1 s1_1 s2_1 s4_1 hbb2_1 hbb4_1
 refine tail_none rfl rfl (does_storeD (o := 0) (n := 4) (cs' := [w32 (pair seed ((⟨UInt32.ofNat i, 0, 0, 0⟩ : Dg))).a, w32 (pair seed ((⟨UInt32.ofNat i, 0, 0, 0⟩ : Dg))).b, w32 (pair seed ((⟨UInt32.ofNat i, 0, 0, 0⟩ : Dg))).c, w32 (pair seed ((⟨UInt32.ofNat i, 0, 0, 0⟩ : Dg))).d]) (V := Dg.val (pair seed ((⟨UInt32.ofNat i, 0, 0, 0⟩ : Dg)))) s4_2 s9_2 hbb4_2 (Nat.le_of_ble_eq_true rfl) rfl siz_24 rfl rfl (fun wd3 hX hz hbb4_3 => ?_))
 have hE_3 := hE_2.since hX (fun k e => e ▸ fr_b4)
 have hbb2_3 := hbb2_2.ext hX ne_b2_b4
 clear hX hz hE_2 hbb2_2 hbb4_2
 refine tail_nil ?_
 refine wp_ret ?_
 refine res_one (V := Dg.val (pair seed ((⟨UInt32.ofNat i, 0, 0, 0⟩ : Dg)))) rfl hD_2 (ResIs.cell s4_2 hbb4_3 row_24 rfl rfl) ?_
 exact ⟨rfl, hE_3⟩

theorem publicR (seed : Dg) (w0 : World) :
    Gives Tryd.prog 20 #[Dg.val (seed)] w0 (Pr.ex (Dg.val (Sd.lone seed))) := by
 refine enter (N := 18) Tryd.func20 rfl rfl ?_
 intro a0 hN_0 hD_0 hA
 have s0_0 : get a0 0 = Dg.val (seed) := hA 0 _ rfl
 clear hA
 have hE_0 : Ext w0 w0 := Ext.refl w0
 refine wp_seq ?_
 refine region_lex [1, 2] [(1, Pr.box' w0.heap.size 24 [w32 (seed).a, w32 (seed).b, w32 (seed).c, w32 (seed).d]), (2, Pr.box' w0.heap.size 24 [w32 (Dg.zero).a, w32 (Dg.zero).b, w32 (Dg.zero).c, w32 (Dg.zero).d])] 2 hN_0 hD_0 (by kernel_rfl) (by kernel_rfl) ?_ ?_
 refine Asks.cons ?_ (Asks.cons ?_ (Asks.zero _))
 refine Ask.fresh rfl rfl ?_
 intro aq wq hNq hO hR hT
 exact does_box (V := Dg.val (seed)) ((hO 0 rfl).trans s0_0) (fun b w2 he hlo hb => ⟨he, ⟨b, rfl, Nat.le_trans hR.size' hlo, hb⟩, ⟨b, rfl, hlo, hb.lt⟩⟩)
 refine Ask.fresh rfl rfl ?_
 intro aq wq hNq hO hR hT
 exact does_alloc zero_24 (fun b w2 he hlo hb => ⟨he, ⟨b, rfl, Nat.le_trans hR.size' hlo, hb⟩, ⟨b, rfl, hlo, hb.lt⟩⟩)
 intro a1 wd1 hN_1 hD_1 hO hR hA hU
 obtain ⟨t1, t2, _⟩ := hA
 have hE_1 := hE_0.trans hR
 obtain ⟨b1, s1_1, lo_b1, hbb1_1⟩ := t1
 have fr_b1 : w0.heap.size ≤ b1 := Nat.le_trans hE_0.size' lo_b1
 obtain ⟨b2, s2_1, lo_b2, hbb2_1⟩ := t2
 have fr_b2 : w0.heap.size ≤ b2 := Nat.le_trans hE_0.size' lo_b2
 obtain ⟨u0, ⟨u1, _⟩⟩ := hU
 have ne_b1_b2 : b1 ≠ b2 := fun e => u0 2 (by decide) (by rw [s1_1, s2_1, e])
 clear hE_0 hN_0 hD_0 s0_0
 refine tail_nil ?_
 refine wp_seq ?_
 refine region_lex [] [(3, Pr.ex (Value.slice none 0 0))] 1 hN_1 hD_1 (by kernel_rfl) (by kernel_rfl) ?_ ?_
 refine Asks.cons ?_ (Asks.zero _)
 exact Ask.plain rfl rfl fun aq wq hNq hO hR hT => does_assign (V := Value.slice none 0 0) rfl ⟨Ext.refl _, rfl⟩
 intro a2 wd2 hN_2 hD_2 hO hR hA hU
 obtain ⟨t3, _⟩ := hA
 have hE_2 := hE_1.trans hR
 have s1_2 := (hO 1 rfl).trans s1_1
 have s2_2 := (hO 2 rfl).trans s2_1
 have hbb1_2 := hbb1_1.ext' hR
 have hbb2_2 := hbb2_1.ext' hR
 have s3_2 : get a2 3 = Value.slice none 0 0 := t3
 clear hE_1 hN_1 hD_1 s1_1 s2_1 hbb1_1 hbb2_1
 refine tail_nil ?_
 refine wp_seq ?_
 refine wp_seq ?_
 refine region_lex [] [(4, Pr.ex (i64 ((0 : Nat) : Int)))] 1 hN_2 hD_2 (by kernel_rfl) (by kernel_rfl) ?_ ?_
 refine Asks.cons ?_ (Asks.zero _)
 exact Ask.plain rfl rfl fun aq wq hNq hO hR hT => does_assign (V := i64 ((0 : Nat) : Int)) rfl ⟨Ext.refl _, rfl⟩
 intro a3 wd3 hN_3 hD_3 hO hR hA hU
 obtain ⟨t4, _⟩ := hA
 have hE_3 := hE_2.trans hR
 have s1_3 := (hO 1 rfl).trans s1_2
 have s2_3 := (hO 2 rfl).trans s2_2
 have s3_3 := (hO 3 rfl).trans s3_2
 have hbb1_3 := hbb1_2.ext' hR
 have hbb2_3 := hbb2_2.ext' hR
 have s4_3 : get a3 4 = i64 ((0 : Nat) : Int) := t4
 clear hE_2 hN_2 hD_2 s1_2 s2_2 s3_2 hbb1_2 hbb2_2
 refine tail_nil ?_
 refine wp_block ?_
 refine loop_g (fun mz az wz => ∃ k : Nat, ∃ xo : Value, mz = 35 - k ∧ (az.tmps.size = 18) ∧ (az.defers = []) ∧ (get az 1 = Value.pointer (some ⟨b1, 0, none⟩)) ∧ (get az 2 = Value.pointer (some ⟨b2, 0, none⟩)) ∧ (get az 3 = xo) ∧ (get az 4 = i64 ((k : Nat) : Int)) ∧ (Ext w0 wz) ∧ (Has wz b1 24 [w32 (seed).a, w32 (seed).b, w32 (seed).c, w32 (seed).d]) ∧ (Has wz b2 24 [w32 (Dg.zero).a, w32 (Dg.zero).b, w32 (Dg.zero).c, w32 (Dg.zero).d]) ∧ (OwnT DG w0.heap.size 24 ((List.range k).map (link1 seed)) xo wz) ∧ (xo.ownBlock ≠ some b1) ∧ (xo.ownBlock ≠ some b2) ∧ (k ≤ 35)) ?_ ?_
 exact ⟨_, 0, (Value.slice none 0 0), rfl, hN_3, hD_3, s1_3, s2_3, s3_3, s4_3, hE_3, hbb1_3, hbb2_3, (OwnT.nil DG w0.heap.size 24 _), (by intro e; cases e), (by intro e; cases e), Nat.zero_le _⟩
 rintro mz a4 wd4 ⟨k, xo, rfl, hN_4, hD_4, s1_4, s2_4, s3_4, s4_4, hE_4, hbb1_4, hbb2_4, hoxo_4, nbo_xo_b1, nbo_xo_b2, hkk⟩
 have hsxo_4 := hoxo_4.sl.wide (Nat.zero_le _) (.inl rfl)
 refine wp_seq ?_
 refine wp_seq ?_
 refine region_lex [] [(5, Pr.ex (i64 ((k : Nat) : Int))), (6, Pr.ex (Value.bool (decide (((k : Nat) : Int) < ((35 : Nat) : Int)))))] 2 hN_4 hD_4 (by kernel_rfl) (by kernel_rfl) ?_ ?_
 refine Asks.cons ?_ (Asks.cons ?_ (Asks.zero _))
 exact Ask.plain rfl rfl fun aq wq hNq hO hR hT => does_move (V := i64 ((k : Nat) : Int)) ((hO 4 rfl).trans s4_4) ⟨Ext.refl _, rfl⟩
 exact Ask.plain rfl rfl fun aq wq hNq hO hR hT => does_lss (a := ((k : Nat) : Int)) (b := ((35 : Nat) : Int)) (hT 5 rfl rfl) rfl ⟨Ext.refl _, rfl⟩
 intro a5 wd5 hN_5 hD_5 hO hR hA hU
 obtain ⟨_, t6, _⟩ := hA
 have hE_5 := hE_4.trans hR
 have s1_5 := (hO 1 rfl).trans s1_4
 have s2_5 := (hO 2 rfl).trans s2_4
 have s3_5 := (hO 3 rfl).trans s3_4
 have s4_5 := (hO 4 rfl).trans s4_4
 have hbb1_5 := hbb1_4.ext' hR
 have hbb2_5 := hbb2_4.ext' hR
 have hsxo_5 := hsxo_4.ext' hR
 have hoxo_5 := hoxo_4.ext' hR
 have s6_5 : get a5 6 = Value.bool (decide (((k : Nat) : Int) < ((35 : Nat) : Int))) := t6
 clear hE_4 hN_4 hD_4 s1_4 s2_4 s3_4 s4_4 hbb1_4 hbb2_4 hsxo_4 hoxo_4
 refine tail_nil ?_
 refine wp_if (B := decide (((k : Nat) : Int) < ((35 : Nat) : Int))) s6_5 (fun hc0 => ?_) (fun hc0 => ?_)
 have hc0 := of_decide_eq_true hc0
 refine wp_skip ?_
 refine wp_seq ?_
 refine wp_block ?_
 refine region_lex [] [(9, Pr.ex (xo)), (10, Pr.ex (Dg.val (seed))), (11, Pr.ex (i64 ((k : Nat) : Int))), (12, Pr.ex (Dg.val (Sd.start seed k))), (13, Pr.ex (Dg.val (walk (Sd.start seed k) 15))), (14, Pr.own' DG wd5.heap.size 24 ([walk (Sd.start seed k) 15]))] 6 hN_5 hD_5 (by kernel_rfl) (by kernel_rfl) ?_ ?_
 refine Asks.cons ?_ (Asks.cons ?_ (Asks.cons ?_ (Asks.cons ?_ (Asks.cons ?_ (Asks.cons ?_ (Asks.zero _))))))
 exact Ask.plain rfl rfl fun aq wq hNq hO hR hT => does_move (V := xo) ((hO 3 rfl).trans s3_5) ⟨Ext.refl _, rfl⟩
 exact Ask.plain rfl rfl fun aq wq hNq hO hR hT => does_loadD (o := 0) (n := 4) (mid := [w32 (seed).a, w32 (seed).b, w32 (seed).c, w32 (seed).d]) ((hO 1 rfl).trans s1_5) (hbb1_5.ext' hR) rfl rfl (Nat.le_of_ble_eq_true rfl) row_24 rfl ⟨Ext.refl _, rfl⟩
 exact Ask.plain rfl rfl fun aq wq hNq hO hR hT => does_move (V := i64 ((k : Nat) : Int)) ((hO 4 rfl).trans s4_5) ⟨Ext.refl _, rfl⟩
 exact Ask.plain rfl rfl fun aq wq hNq hO hR hT => does_ret (vs := #[Dg.val (seed), i64 ((k : Nat) : Int)]) call_40 (args2 (hT 10 rfl rfl) (hT 11 rfl rfl)) rfl ((beginR seed k wq).mono fun v w2 h => ⟨h.2, h.1⟩)
 exact Ask.plain rfl rfl fun aq wq hNq hO hR hT => does_ret (vs := #[Dg.val (Sd.start seed k), i64 ((15 : Nat) : Int)]) call_39 (args2 (hT 12 rfl rfl) rfl) rfl ((walkR (Sd.start seed k) (15) wq (by omega)).mono fun v w2 h => ⟨h.2, h.1⟩)
 exact Ask.plain rfl rfl fun aq wq hNq hO hR hT => does_slice1 (T := DG) (X := walk (Sd.start seed k) 15) (V := Dg.val (walk (Sd.start seed k) 15)) app_34 rfl (by decide) (hT 13 rfl rfl) rfl (fun v w2 he _ ho => ⟨he, OwnT.base ho hR.size'⟩)
 intro a6 wd6 hN_6 hD_6 hO hR hA hU
 obtain ⟨t9, _, _, _, _, t14, _⟩ := hA
 have hE_6 := hE_5.trans hR
 have s1_6 := (hO 1 rfl).trans s1_5
 have s2_6 := (hO 2 rfl).trans s2_5
 have s3_6 := (hO 3 rfl).trans s3_5
 have s4_6 := (hO 4 rfl).trans s4_5
 have hbb1_6 := hbb1_5.ext' hR
 have hbb2_6 := hbb2_5.ext' hR
 have hsxo_6 := hsxo_5.ext' hR
 have hoxo_6 := hoxo_5.ext' hR
 have s9_6 : get a6 9 = xo := t9
 obtain ⟨x14, s14_6⟩ : ∃ x, get a6 14 = x := ⟨_, rfl⟩
 replace t14 : OwnT DG wd5.heap.size 24 ([walk (Sd.start seed k) 15]) x14 wd6 := by rw [← s14_6]; exact t14
 have nbo_x14_b1 : x14.ownBlock ≠ some b1 := fun e => Nat.lt_irrefl _ (Nat.lt_of_lt_of_le hbb1_5.lt (OwnT.block_lt t14 e).1)
 have nbo_x14_b2 : x14.ownBlock ≠ some b2 := fun e => Nat.lt_irrefl _ (Nat.lt_of_lt_of_le hbb2_5.lt (OwnT.block_lt t14 e).1)
 have no_x14_xo : ∀ k, x14.ownBlock = some k → xo.ownBlock ≠ some k := fun k e e' => Nat.lt_irrefl _ (Nat.lt_of_lt_of_le (OwnT.block_lt hoxo_5 e').2 (OwnT.block_lt t14 e).1)
 have hsx14_6 := t14.sl.wide (Nat.zero_le _) (.inl rfl)
 have hox14_6 := OwnT.base t14 hE_5.size'
 clear hE_5 hN_5 hD_5 s1_5 s2_5 s3_5 s4_5 s6_5 hbb1_5 hbb2_5 hsxo_5 hoxo_5
 refine tail_put rfl rfl hN_6 hD_6 (by decide) (does_append (T := DG) (base := w0.heap.size) (xs := (List.range k).map (link1 seed)) (ys := [walk (Sd.start seed k) 15]) (v := xo) app_34 s9_6 hoxo_6 (SlT.at s14_6 hsx14_6) (by simp) (by simp only [List.length_map, List.length_range, List.length_cons, List.length_nil]; omega) (by simp only [List.length_map, List.length_range, List.length_cons, List.length_nil]; omega) hE_6.size' (fun x15 wd7 hX hox15_7 hk a7 hN_7 hD_7 hv hO => ?_))
 have hE_7 := hE_6.since hX (fun b hb => Nat.le_trans (Nat.le_refl _) (OwnT.block_lt hoxo_6 hb).1)
 have hbb1_7 := hbb1_6.ext hX nbo_xo_b1
 have nbo_x15_b1 : x15.ownBlock ≠ some b1 := fun e => (hk _ e).elim nbo_xo_b1 (fun h => Nat.lt_irrefl _ (Nat.lt_of_lt_of_le hbb1_6.lt h))
 have hbb2_7 := hbb2_6.ext hX nbo_xo_b2
 have nbo_x15_b2 : x15.ownBlock ≠ some b2 := fun e => (hk _ e).elim nbo_xo_b2 (fun h => Nat.lt_irrefl _ (Nat.lt_of_lt_of_le hbb2_6.lt h))
 have hox14_7 := OwnT.ext hox14_6 hX (fun k hk e => no_x14_xo k hk e)
 have no_x15_x14 : ∀ k, x15.ownBlock = some k → x14.ownBlock ≠ some k := fun k e e' => (hk k e).elim (fun h => no_x14_xo k e' h) (fun h => Nat.lt_irrefl _ (Nat.lt_of_lt_of_le (OwnT.block_lt hox14_6 e').2 h))
 have hsx14_7 := hox14_7.sl.wide (Nat.zero_le _) (.inl rfl)
 have hsx15_7 := hox15_7.sl.wide (Nat.zero_le _) (.inl rfl)
 rw [(show (List.range k).map (link1 seed) ++ [walk (Sd.start seed k) 15] = (List.range (k + 1)).map (link1 seed) from range_step rfl)] at hox15_7 hsx15_7
 have s15_7 := hv
 have s1_7 := (hO 1 rfl).trans s1_6
 have s2_7 := (hO 2 rfl).trans s2_6
 have s3_7 := (hO 3 rfl).trans s3_6
 have s4_7 := (hO 4 rfl).trans s4_6
 clear hO hv hX hk hN_6 hD_6 hE_6 hbb1_6 hbb2_6 hox14_6 s1_6 s2_6 s3_6 s4_6 s9_6 s14_6
 refine tail_put rfl rfl hN_7 hD_7 (by decide) (does_assign (V := x15) s15_7 (fun a8 hN_8 hD_8 hv hO => ?_))
 have s3_8 := hv
 have s1_8 := (hO 1 rfl).trans s1_7
 have s2_8 := (hO 2 rfl).trans s2_7
 have s4_8 := (hO 4 rfl).trans s4_7
 clear hO hv hN_7 hD_7 s1_7 s2_7 s4_7 s15_7 s3_7
 refine tail_nil ?_
 refine region_lex [] [(7, Pr.ex (i64 ((k : Nat) : Int))), (8, Pr.ex (i64 ((k + 1 : Nat) : Int)))] 2 hN_8 hD_8 (by kernel_rfl) (by kernel_rfl) ?_ ?_
 refine Asks.cons ?_ (Asks.cons ?_ (Asks.zero _))
 exact Ask.plain rfl rfl fun aq wq hNq hO hR hT => does_move (V := i64 ((k : Nat) : Int)) ((hO 4 rfl).trans s4_8) ⟨Ext.refl _, rfl⟩
 exact Ask.plain rfl rfl fun aq wq hNq hO hR hT => does_add (a := ((k : Nat) : Int)) (b := ((1 : Nat) : Int)) (r := ((k + 1 : Nat) : Int)) (hT 7 rfl rfl) rfl (by omega) (by omega) (by omega) ⟨Ext.refl _, rfl⟩
 intro a9 wd9 hN_9 hD_9 hO hR hA hU
 obtain ⟨_, t8, _⟩ := hA
 have hE_9 := hE_7.trans hR
 have s1_9 := (hO 1 rfl).trans s1_8
 have s2_9 := (hO 2 rfl).trans s2_8
 have s3_9 := (hO 3 rfl).trans s3_8
 have s4_9 := (hO 4 rfl).trans s4_8
 have hbb1_9 := hbb1_7.ext' hR
 have hbb2_9 := hbb2_7.ext' hR
 have hsx14_9 := hsx14_7.ext' hR
 have hsx15_9 := hsx15_7.ext' hR
 have hox14_9 := hox14_7.ext' hR
 have hox15_9 := hox15_7.ext' hR
 have s8_9 : get a9 8 = i64 ((k + 1 : Nat) : Int) := t8
 clear hE_7 hN_8 hD_8 s1_8 s2_8 s3_8 s4_8 hbb1_7 hbb2_7 hsx14_7 hsx15_7 hox14_7 hox15_7
 refine tail_put rfl rfl hN_9 hD_9 (by decide) (does_assign (V := i64 ((k + 1 : Nat) : Int)) s8_9 (fun a10 hN_10 hD_10 hv hO => ?_))
 have s4_10 := hv
 have s1_10 := (hO 1 rfl).trans s1_9
 have s2_10 := (hO 2 rfl).trans s2_9
 have s3_10 := (hO 3 rfl).trans s3_9
 clear hO hv hN_9 hD_9 s1_9 s2_9 s3_9 s8_9 s4_9
 refine tail_nil ?_
 exact ⟨_, by omega, k + 1, x15, rfl, hN_10, hD_10, s1_10, s2_10, s3_10, s4_10, hE_9, hbb1_9, hbb2_9, hox15_9, nbo_x15_b1, nbo_x15_b2, by omega⟩
 have hc0 := of_decide_eq_false hc0
 have hk35 : k = 35 := by omega
 refine wp_exit ?_
 refine wp_seq ?_
 refine region_lex [] [(16, Pr.ex (xo)), (17, Pr.ex (Dg.val (tied ⟨35, 0, 0, 0⟩ ((List.range k).map (link1 seed)))))] 2 hN_5 hD_5 (by kernel_rfl) (by kernel_rfl) ?_ ?_
 refine Asks.cons ?_ (Asks.cons ?_ (Asks.zero _))
 exact Ask.plain rfl rfl fun aq wq hNq hO hR hT => does_move (V := xo) ((hO 3 rfl).trans s3_5) ⟨Ext.refl _, rfl⟩
 exact Ask.plain rfl rfl fun aq wq hNq hO hR hT => does_ret (vs := #[xo]) call_41 (args1 (hT 16 rfl rfl)) rfl ((ofEnds ((List.range k).map (link1 seed)) (xo) wq ((hsxo_5.ext' hR).wide (Nat.zero_le _) (.inl rfl)) (by simp only [List.length_map, List.length_range, List.length_cons, List.length_nil]; omega)).mono fun v w2 h => ⟨h.2, h.1⟩)
 intro a11 wd11 hN_11 hD_11 hO hR hA hU
 obtain ⟨_, t17, _⟩ := hA
 have hE_11 := hE_5.trans hR
 have s2_11 := (hO 2 rfl).trans s2_5
 have hbb1_11 := hbb1_5.ext' hR
 have hbb2_11 := hbb2_5.ext' hR
 have hsxo_11 := hsxo_5.ext' hR
 have hoxo_11 := hoxo_5.ext' hR
 have s17_11 : get a11 17 = Dg.val (tied ⟨35, 0, 0, 0⟩ ((List.range k).map (link1 seed))) := t17
 clear hE_5 hN_5 hD_5 s1_5 s2_5 s3_5 s4_5 s6_5 hbb1_5 hbb2_5 hsxo_5 hoxo_5
 refine tail_none rfl rfl (does_storeD (o := 0) (n := 4) (cs' := [w32 (tied ⟨35, 0, 0, 0⟩ ((List.range k).map (link1 seed))).a, w32 (tied ⟨35, 0, 0, 0⟩ ((List.range k).map (link1 seed))).b, w32 (tied ⟨35, 0, 0, 0⟩ ((List.range k).map (link1 seed))).c, w32 (tied ⟨35, 0, 0, 0⟩ ((List.range k).map (link1 seed))).d]) (V := Dg.val (tied ⟨35, 0, 0, 0⟩ ((List.range k).map (link1 seed)))) s2_11 s17_11 hbb2_11 (Nat.le_of_ble_eq_true rfl) rfl siz_24 rfl rfl (fun wd12 hX hz hbb2_12 => ?_))
 have hE_12 := hE_11.since hX (fun k e => e ▸ fr_b2)
 have hbb1_12 := hbb1_11.ext hX ne_b1_b2
 have hsxo_12 := SlT.over hsxo_11 hX (fun _ => nbo_xo_b2)
 have hoxo_12 := OwnT.ext hoxo_11 hX (fun k hk e => nbo_xo_b2 (e ▸ hk))
 clear hX hz hE_11 hbb1_11 hbb2_11 hsxo_11 hoxo_11
 refine tail_nil ?_
 refine wp_ret ?_
 refine res_one (V := Dg.val (tied ⟨35, 0, 0, 0⟩ ((List.range k).map (link1 seed)))) rfl hD_11 (ResIs.cell s2_11 hbb2_12 row_24 rfl rfl) ?_
 subst hk35
 exact ⟨by show Dg.val _ = Dg.val _; rw [lone_eq], hE_12⟩

theorem seedR (seed : Dg) (i : Nat) (w0 : World) :
    Gives Tryd.prog 21 #[Dg.val (seed), i64 ((i : Nat) : Int)] w0 (Pr.ex (Dg.val (seedAt seed i))) := by
 refine enter (N := 19) Tryd.func21 rfl rfl ?_
 intro a0 hN_0 hD_0 hA
 have s0_0 : get a0 0 = Dg.val (seed) := hA 0 _ rfl
 have s1_0 : get a0 1 = i64 ((i : Nat) : Int) := hA 1 _ rfl
 clear hA
 have hE_0 : Ext w0 w0 := Ext.refl w0
 refine wp_seq ?_
 refine region_lex [2, 4] [(2, Pr.box' w0.heap.size 24 [w32 (seed).a, w32 (seed).b, w32 (seed).c, w32 (seed).d]), (4, Pr.box' w0.heap.size 24 [w32 (Dg.zero).a, w32 (Dg.zero).b, w32 (Dg.zero).c, w32 (Dg.zero).d])] 2 hN_0 hD_0 (by kernel_rfl) (by kernel_rfl) ?_ ?_
 refine Asks.cons ?_ (Asks.cons ?_ (Asks.zero _))
 refine Ask.fresh rfl rfl ?_
 intro aq wq hNq hO hR hT
 exact does_box (V := Dg.val (seed)) ((hO 0 rfl).trans s0_0) (fun b w2 he hlo hb => ⟨he, ⟨b, rfl, Nat.le_trans hR.size' hlo, hb⟩, ⟨b, rfl, hlo, hb.lt⟩⟩)
 refine Ask.fresh rfl rfl ?_
 intro aq wq hNq hO hR hT
 exact does_alloc zero_24 (fun b w2 he hlo hb => ⟨he, ⟨b, rfl, Nat.le_trans hR.size' hlo, hb⟩, ⟨b, rfl, hlo, hb.lt⟩⟩)
 intro a1 wd1 hN_1 hD_1 hO hR hA hU
 obtain ⟨t2, t4, _⟩ := hA
 have hE_1 := hE_0.trans hR
 have s1_1 := (hO 1 rfl).trans s1_0
 obtain ⟨b2, s2_1, lo_b2, hbb2_1⟩ := t2
 have fr_b2 : w0.heap.size ≤ b2 := Nat.le_trans hE_0.size' lo_b2
 obtain ⟨b4, s4_1, lo_b4, hbb4_1⟩ := t4
 have fr_b4 : w0.heap.size ≤ b4 := Nat.le_trans hE_0.size' lo_b4
 obtain ⟨u0, ⟨u1, _⟩⟩ := hU
 have ne_b2_b4 : b2 ≠ b4 := fun e => u0 4 (by decide) (by rw [s2_1, s4_1, e])
 clear hE_0 hN_0 hD_0 s0_0 s1_0
 refine tail_nil ?_
 refine wp_seq ?_
 refine region_lex [] [(5, Pr.ex (Value.pointer (some ⟨b2, 0, none⟩))), (6, Pr.ex (w32 ((seed).a))), (7, Pr.ex (Value.pointer (some ⟨b2, 1, none⟩))), (8, Pr.ex (w32 ((seed).b))), (9, Pr.ex (Value.pointer (some ⟨b2, 2, none⟩))), (10, Pr.ex (w32 ((seed).c))), (11, Pr.ex (Value.pointer (some ⟨b2, 3, none⟩))), (12, Pr.ex (w32 ((seed).d))), (13, Pr.ex (i64 ((i : Nat) : Int))), (14, Pr.ex (w32 (UInt32.ofNat i))), (15, Pr.own' W32 wd1.heap.size 22 ([(seed).a, (seed).b, (seed).c, (seed).d, UInt32.ofNat i])), (16, Pr.ex (str (wbytes [(seed).a, (seed).b, (seed).c, (seed).d, UInt32.ofNat i]))), (17, Pr.ex (str ((([107] : List UInt8)) ++ (wbytes [(seed).a, (seed).b, (seed).c, (seed).d, UInt32.ofNat i])))), (18, Pr.ex (Dg.val (of ((([107] : List UInt8)) ++ (wbytes [(seed).a, (seed).b, (seed).c, (seed).d, UInt32.ofNat i])))))] 14 hN_1 hD_1 (by kernel_rfl) (by kernel_rfl) ?_ ?_
 refine Asks.cons ?_ (Asks.cons ?_ (Asks.cons ?_ (Asks.cons ?_ (Asks.cons ?_ (Asks.cons ?_ (Asks.cons ?_ (Asks.cons ?_ (Asks.cons ?_ (Asks.cons ?_ (Asks.cons ?_ (Asks.cons ?_ (Asks.cons ?_ (Asks.cons ?_ (Asks.zero _))))))))))))))
 exact Ask.plain rfl rfl fun aq wq hNq hO hR hT => does_indexArr (k := .i64) (i := 0) (o' := 0) arr_24 ((hO 2 rfl).trans s2_1) rfl (by decide) (by decide) rfl ⟨Ext.refl _, rfl⟩
 exact Ask.plain rfl rfl fun aq wq hNq hO hR hT => does_loadD1 (o := 0) (V := w32 ((seed).a)) (hT 5 rfl rfl) (hbb2_1.ext' hR) rfl one_22 ⟨Ext.refl _, rfl⟩
 exact Ask.plain rfl rfl fun aq wq hNq hO hR hT => does_indexArr (k := .i64) (i := 1) (o' := 1) arr_24 ((hO 2 rfl).trans s2_1) rfl (by decide) (by decide) rfl ⟨Ext.refl _, rfl⟩
 exact Ask.plain rfl rfl fun aq wq hNq hO hR hT => does_loadD1 (o := 1) (V := w32 ((seed).b)) (hT 7 rfl rfl) (hbb2_1.ext' hR) rfl one_22 ⟨Ext.refl _, rfl⟩
 exact Ask.plain rfl rfl fun aq wq hNq hO hR hT => does_indexArr (k := .i64) (i := 2) (o' := 2) arr_24 ((hO 2 rfl).trans s2_1) rfl (by decide) (by decide) rfl ⟨Ext.refl _, rfl⟩
 exact Ask.plain rfl rfl fun aq wq hNq hO hR hT => does_loadD1 (o := 2) (V := w32 ((seed).c)) (hT 9 rfl rfl) (hbb2_1.ext' hR) rfl one_22 ⟨Ext.refl _, rfl⟩
 exact Ask.plain rfl rfl fun aq wq hNq hO hR hT => does_indexArr (k := .i64) (i := 3) (o' := 3) arr_24 ((hO 2 rfl).trans s2_1) rfl (by decide) (by decide) rfl ⟨Ext.refl _, rfl⟩
 exact Ask.plain rfl rfl fun aq wq hNq hO hR hT => does_loadD1 (o := 3) (V := w32 ((seed).d)) (hT 11 rfl rfl) (hbb2_1.ext' hR) rfl one_22 ⟨Ext.refl _, rfl⟩
 exact Ask.plain rfl rfl fun aq wq hNq hO hR hT => does_move (V := i64 ((i : Nat) : Int)) ((hO 1 rfl).trans s1_1) ⟨Ext.refl _, rfl⟩
 exact Ask.plain rfl rfl fun aq wq hNq hO hR hT => does_conv ⟨_, Tryd.underlying3⟩ Tryd.underlying22 (hT 13 rfl rfl) (wrap_u32 _) ⟨Ext.refl _, rfl⟩
 exact Ask.plain rfl rfl fun aq wq hNq hO hR hT => does_sliceN (T := W32) (xs := [(seed).a, (seed).b, (seed).c, (seed).d, UInt32.ofNat i]) (vs := [w32 ((seed).a), w32 ((seed).b), w32 ((seed).c), w32 ((seed).d), w32 (UInt32.ofNat i)]) app_70 rfl (parts5 (hT 6 rfl rfl) (hT 8 rfl rfl) (hT 10 rfl rfl) (hT 12 rfl rfl) (hT 14 rfl rfl)) rfl (by decide) (by decide) rfl (fun v w2 he _ ho => ⟨he, OwnT.base ho hR.size'⟩)
 exact Ask.plain rfl rfl fun aq wq hNq hO hR hT => does_ret (vs := #[get aq 15]) call_43 (args1 rfl) rfl ((bytesR ([(seed).a, (seed).b, (seed).c, (seed).d, UInt32.ofNat i]) (get aq 15) wq (((OwnT.sl (hT 15 rfl rfl)).wide (Nat.zero_le _) (.inl rfl)).wide (Nat.zero_le _) (.inl rfl)) (Nat.le_of_ble_eq_true rfl)).mono fun v w2 h => ⟨h.2, h.1⟩)
 exact Ask.plain rfl rfl fun aq wq hNq hO hR hT => does_cat (a := ([107] : List UInt8)) (b := wbytes [(seed).a, (seed).b, (seed).c, (seed).d, UInt32.ofNat i]) rfl (hT 16 rfl rfl) (by simp only [List.length_append, List.length_cons, List.length_nil, List.length_replicate, bytes_length]; omega) ⟨Ext.refl _, rfl⟩
 exact Ask.plain rfl rfl fun aq wq hNq hO hR hT => does_ret (vs := #[str ((([107] : List UInt8)) ++ (wbytes [(seed).a, (seed).b, (seed).c, (seed).d, UInt32.ofNat i]))]) call_42 (args1 (hT 17 rfl rfl)) rfl ((ofR ((([107] : List UInt8)) ++ (wbytes [(seed).a, (seed).b, (seed).c, (seed).d, UInt32.ofNat i])) wq (by simp [bytes_length])).mono fun v w2 h => ⟨h.2, h.1⟩)
 intro a2 wd2 hN_2 hD_2 hO hR hA hU
 obtain ⟨_, _, _, _, _, _, _, _, _, _, _, _, _, t18, _⟩ := hA
 have hE_2 := hE_1.trans hR
 have s4_2 := (hO 4 rfl).trans s4_1
 have hbb2_2 := hbb2_1.ext' hR
 have hbb4_2 := hbb4_1.ext' hR
 have s18_2 : get a2 18 = Dg.val (of ((([107] : List UInt8)) ++ (wbytes [(seed).a, (seed).b, (seed).c, (seed).d, UInt32.ofNat i]))) := t18
 clear hE_1 hN_1 hD_1 s1_1 s2_1 s4_1 hbb2_1 hbb4_1
 refine tail_none rfl rfl (does_storeD (o := 0) (n := 4) (cs' := [w32 (of ((([107] : List UInt8)) ++ (wbytes [(seed).a, (seed).b, (seed).c, (seed).d, UInt32.ofNat i]))).a, w32 (of ((([107] : List UInt8)) ++ (wbytes [(seed).a, (seed).b, (seed).c, (seed).d, UInt32.ofNat i]))).b, w32 (of ((([107] : List UInt8)) ++ (wbytes [(seed).a, (seed).b, (seed).c, (seed).d, UInt32.ofNat i]))).c, w32 (of ((([107] : List UInt8)) ++ (wbytes [(seed).a, (seed).b, (seed).c, (seed).d, UInt32.ofNat i]))).d]) (V := Dg.val (of ((([107] : List UInt8)) ++ (wbytes [(seed).a, (seed).b, (seed).c, (seed).d, UInt32.ofNat i])))) s4_2 s18_2 hbb4_2 (Nat.le_of_ble_eq_true rfl) rfl siz_24 rfl rfl (fun wd3 hX hz hbb4_3 => ?_))
 have hE_3 := hE_2.since hX (fun k e => e ▸ fr_b4)
 have hbb2_3 := hbb2_2.ext hX ne_b2_b4
 clear hX hz hE_2 hbb2_2 hbb4_2
 refine tail_nil ?_
 refine wp_ret ?_
 refine res_one (V := Dg.val (of ((([107] : List UInt8)) ++ (wbytes [(seed).a, (seed).b, (seed).c, (seed).d, UInt32.ofNat i])))) rfl hD_2 (ResIs.cell s4_2 hbb4_3 row_24 rfl rfl) ?_
 exact ⟨rfl, hE_3⟩

end Go.Proofs.YtaeohnkfmachfabDoor
