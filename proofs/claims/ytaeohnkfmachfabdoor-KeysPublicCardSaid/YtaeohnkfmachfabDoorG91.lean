/- The walks of functions of the program: printed. -/
import Derived.Test.YtaeohnkfmachfabDoorK
import Derived.Test.YtaeohnkfmachfabDoorG60
import Derived.Test.YtaeohnkfmachfabDoorG61
import Derived.Test.YtaeohnkfmachfabDoorG90
import Derived.Test.YtaeohnkfmachfabDoorF0
set_option maxRecDepth 100000
namespace Go.Proofs.YtaeohnkfmachfabDoor
open Go Go.RowKit Sk Sd
theorem sign1 (seed msg : Dg) (w0 : World) (hL : Laid w0) :
    Gives Tryd.prog 15 #[Dg.val (seed), Dg.val (msg)] w0 (Pr.own' DG w0.heap.size 24 (signed seed msg)) := by
 refine enter (N := 26) Tryd.func15 rfl rfl ?_
 intro a0 hN_0 hD_0 hA
 have s0_0 : get a0 0 = Dg.val (seed) := hA 0 _ rfl
 have s1_0 : get a0 1 = Dg.val (msg) := hA 1 _ rfl
 clear hA
 have hE_0 : Ext w0 w0 := Ext.refl w0
 refine wp_seq ?_
 refine region_lex [2, 3] [(2, Pr.box' w0.heap.size 24 [w32 (seed).a, w32 (seed).b, w32 (seed).c, w32 (seed).d]), (3, Pr.box' w0.heap.size 24 [w32 (msg).a, w32 (msg).b, w32 (msg).c, w32 (msg).d]), (4, Pr.ex (Value.slice none 0 0))] 3 hN_0 hD_0 (by kernel_rfl) (by kernel_rfl) ?_ ?_
 refine Asks.cons ?_ (Asks.cons ?_ (Asks.cons ?_ (Asks.zero _)))
 refine Ask.fresh rfl rfl ?_
 intro aq wq hNq hO hR hT
 exact does_box (V := Dg.val (seed)) ((hO 0 rfl).trans s0_0) (fun b w2 he hlo hb => ⟨he, ⟨b, rfl, Nat.le_trans hR.size' hlo, hb⟩, ⟨b, rfl, hlo, hb.lt⟩⟩)
 refine Ask.fresh rfl rfl ?_
 intro aq wq hNq hO hR hT
 exact does_box (V := Dg.val (msg)) ((hO 1 rfl).trans s1_0) (fun b w2 he hlo hb => ⟨he, ⟨b, rfl, Nat.le_trans hR.size' hlo, hb⟩, ⟨b, rfl, hlo, hb.lt⟩⟩)
 exact Ask.plain rfl rfl fun aq wq hNq hO hR hT => does_assign (V := Value.slice none 0 0) rfl ⟨Ext.refl _, rfl⟩
 intro a1 wd1 hN_1 hD_1 hO hR hA hU
 obtain ⟨t2, t3, _, _⟩ := hA
 have hE_1 := hE_0.trans hR
 obtain ⟨b2, s2_1, lo_b2, hbb2_1⟩ := t2
 have fr_b2 : w0.heap.size ≤ b2 := Nat.le_trans hE_0.size' lo_b2
 obtain ⟨b3, s3_1, lo_b3, hbb3_1⟩ := t3
 have fr_b3 : w0.heap.size ≤ b3 := Nat.le_trans hE_0.size' lo_b3
 obtain ⟨u0, ⟨u1, _⟩⟩ := hU
 have ne_b2_b3 : b2 ≠ b3 := fun e => u0 3 (by decide) (by rw [s2_1, s3_1, e])
 clear hE_0 hN_0 hD_0 s0_0 s1_0
 refine tail_nil ?_
 refine wp_seq ?_
 refine region_lex [] [(5, Pr.ex (Value.slice none 0 0))] 1 hN_1 hD_1 (by kernel_rfl) (by kernel_rfl) ?_ ?_
 refine Asks.cons ?_ (Asks.zero _)
 exact Ask.plain rfl rfl fun aq wq hNq hO hR hT => does_assign (V := Value.slice none 0 0) rfl ⟨Ext.refl _, rfl⟩
 intro a2 wd2 hN_2 hD_2 hO hR hA hU
 obtain ⟨t5, _⟩ := hA
 have hE_2 := hE_1.trans hR
 have s2_2 := (hO 2 rfl).trans s2_1
 have s3_2 := (hO 3 rfl).trans s3_1
 have hbb2_2 := hbb2_1.ext' hR
 have hbb3_2 := hbb3_1.ext' hR
 have s5_2 : get a2 5 = Value.slice none 0 0 := t5
 clear hE_1 hN_1 hD_1 s2_1 s3_1 hbb2_1 hbb3_1
 refine tail_nil ?_
 refine wp_seq ?_
 refine wp_seq ?_
 refine region_lex [] [(8, Pr.ex (Dg.val (msg))), (9, Pr.own' NI wd2.heap.size 3 (steps msg)), (10, Pr.ex (i64 (((steps msg).length : Nat) : Int))), (11, Pr.ex (i64 ((0 : Nat) : Int)))] 4 hN_2 hD_2 (by kernel_rfl) (by kernel_rfl) ?_ ?_
 refine Asks.cons ?_ (Asks.cons ?_ (Asks.cons ?_ (Asks.cons ?_ (Asks.zero _))))
 exact Ask.plain rfl rfl fun aq wq hNq hO hR hT => does_loadD (o := 0) (n := 4) (mid := [w32 (msg).a, w32 (msg).b, w32 (msg).c, w32 (msg).d]) ((hO 3 rfl).trans s3_2) (hbb3_2.ext' hR) rfl rfl (Nat.le_of_ble_eq_true rfl) row_24 rfl ⟨Ext.refl _, rfl⟩
 exact Ask.plain rfl rfl fun aq wq hNq hO hR hT => does_ret (vs := #[Dg.val (msg)]) call_32 (args1 (hT 8 rfl rfl)) rfl ((steps_ msg wq).mono fun v w2 h => ⟨h.2, OwnT.base h.1 hR.size'⟩)
 exact Ask.plain rfl rfl fun aq wq hNq hO hR hT => does_len (T := NI) (xs := steps msg) sli_61 ((OwnT.sl (hT 9 rfl rfl)).wide (Nat.zero_le _) (.inl rfl)) ⟨Ext.refl _, rfl⟩
 exact Ask.plain rfl rfl fun aq wq hNq hO hR hT => does_move (V := i64 ((0 : Nat) : Int)) rfl ⟨Ext.refl _, rfl⟩
 intro a3 wd3 hN_3 hD_3 hO hR hA hU
 obtain ⟨_, t9, t10, t11, _⟩ := hA
 have hE_3 := hE_2.trans hR
 have s2_3 := (hO 2 rfl).trans s2_2
 have s5_3 := (hO 5 rfl).trans s5_2
 have hbb2_3 := hbb2_2.ext' hR
 have hbb3_3 := hbb3_2.ext' hR
 obtain ⟨x9, s9_3⟩ : ∃ x, get a3 9 = x := ⟨_, rfl⟩
 replace t9 : OwnT NI wd2.heap.size 3 (steps msg) x9 wd3 := by rw [← s9_3]; exact t9
 have nbo_x9_b2 : x9.ownBlock ≠ some b2 := fun e => Nat.lt_irrefl _ (Nat.lt_of_lt_of_le hbb2_2.lt (OwnT.block_lt t9 e).1)
 have nbo_x9_b3 : x9.ownBlock ≠ some b3 := fun e => Nat.lt_irrefl _ (Nat.lt_of_lt_of_le hbb3_2.lt (OwnT.block_lt t9 e).1)
 have hsx9_3 := t9.sl.wide (Nat.zero_le _) (.inl rfl)
 have hox9_3 := OwnT.base t9 hE_2.size'
 have s10_3 : get a3 10 = i64 (((steps msg).length : Nat) : Int) := t10
 have s11_3 : get a3 11 = i64 ((0 : Nat) : Int) := t11
 clear hE_2 hN_2 hD_2 s2_2 s3_2 s5_2 hbb2_2 hbb3_2
 refine tail_nil ?_
 refine wp_block ?_
 refine loop_g (fun mz az wz => ∃ k : Nat, ∃ xo : Value, mz = 35 - k ∧ (az.tmps.size = 26) ∧ (az.defers = []) ∧ (get az 2 = Value.pointer (some ⟨b2, 0, none⟩)) ∧ (get az 5 = xo) ∧ (get az 9 = x9) ∧ (get az 10 = i64 (((steps msg).length : Nat) : Int)) ∧ (get az 11 = i64 ((k : Nat) : Int)) ∧ (Ext w0 wz) ∧ (Has wz b2 24 [w32 (seed).a, w32 (seed).b, w32 (seed).c, w32 (seed).d]) ∧ (Has wz b3 24 [w32 (msg).a, w32 (msg).b, w32 (msg).c, w32 (msg).d]) ∧ (SlT NI 0 0 (steps msg) x9 wz) ∧ (OwnT DG w0.heap.size 24 ((List.range k).map (sgn seed msg)) xo wz) ∧ (xo.ownBlock ≠ some b2) ∧ (xo.ownBlock ≠ some b3) ∧ (OwnT NI w0.heap.size 3 (steps msg) x9 wz) ∧ (x9.ownBlock ≠ some b2) ∧ (x9.ownBlock ≠ some b3) ∧ (k ≤ 35)) ?_ ?_
 exact ⟨_, 0, (Value.slice none 0 0), rfl, hN_3, hD_3, s2_3, s5_3, s9_3, s10_3, s11_3, hE_3, hbb2_3, hbb3_3, hsx9_3, (OwnT.nil DG w0.heap.size 24 _), (by intro e; cases e), (by intro e; cases e), hox9_3, nbo_x9_b2, nbo_x9_b3, by decide⟩
 rintro mz a4 wd4 ⟨k, xo, rfl, hN_4, hD_4, s2_4, s5_4, s9_4, s10_4, s11_4, hE_4, hbb2_4, hbb3_4, hsx9_4, hoxo_4, nbo_xo_b2, nbo_xo_b3, hox9_4, nbo_x9_b2, nbo_x9_b3, hk⟩
 have hsxo_4 := hoxo_4.sl.wide (Nat.zero_le _) (.inl rfl)
 have hsx9_4 := hox9_4.sl.wide (Nat.zero_le _) (.inl rfl)
 refine wp_seq ?_
 refine region_lex [] [(12, Pr.ex (Value.bool (decide (((k : Nat) : Int) < (((steps msg).length : Nat) : Int)))))] 1 hN_4 hD_4 (by kernel_rfl) (by kernel_rfl) ?_ ?_
 refine Asks.cons ?_ (Asks.zero _)
 exact Ask.plain rfl rfl fun aq wq hNq hO hR hT => does_lss (a := ((k : Nat) : Int)) (b := (((steps msg).length : Nat) : Int)) ((hO 11 rfl).trans s11_4) ((hO 10 rfl).trans s10_4) ⟨Ext.refl _, rfl⟩
 intro a5 wd5 hN_5 hD_5 hO hR hA hU
 obtain ⟨t12, _⟩ := hA
 have hE_5 := hE_4.trans hR
 have s2_5 := (hO 2 rfl).trans s2_4
 have s5_5 := (hO 5 rfl).trans s5_4
 have s9_5 := (hO 9 rfl).trans s9_4
 have s10_5 := (hO 10 rfl).trans s10_4
 have s11_5 := (hO 11 rfl).trans s11_4
 have hbb2_5 := hbb2_4.ext' hR
 have hbb3_5 := hbb3_4.ext' hR
 have hsx9_5 := hsx9_4.ext' hR
 have hsxo_5 := hsxo_4.ext' hR
 have hoxo_5 := hoxo_4.ext' hR
 have hox9_5 := hox9_4.ext' hR
 have s12_5 : get a5 12 = Value.bool (decide (((k : Nat) : Int) < (((steps msg).length : Nat) : Int))) := t12
 clear hE_4 hN_4 hD_4 s2_4 s5_4 s9_4 s10_4 s11_4 hbb2_4 hbb3_4 hsx9_4 hsxo_4 hoxo_4 hox9_4
 refine tail_nil ?_
 refine wp_seq ?_
 refine wp_if (B := decide (((k : Nat) : Int) < (((steps msg).length : Nat) : Int))) s12_5 (fun hc0 => ?_) (fun hc0 => ?_)
 have hc0 := of_decide_eq_true hc0
 have hk35 : k < 35 := by have := steps_length msg; omega
 have hle := steps_le msg k
 refine wp_skip ?_
 refine wp_seq ?_
 refine wp_block ?_
 refine wp_seq ?_
 refine region_lex [] [(13, Pr.ex (i64 ((k : Nat) : Int))), (14, Pr.pt' 0 0 [i64 (((steps msg).getD k 0 : Nat) : Int)]), (15, Pr.ex (i64 (((steps msg).getD k 0 : Nat) : Int))), (6, Pr.ex (i64 ((k : Nat) : Int))), (7, Pr.ex (i64 (((steps msg).getD k 0 : Nat) : Int)))] 5 hN_5 hD_5 (by kernel_rfl) (by kernel_rfl) ?_ ?_
 refine Asks.cons ?_ (Asks.cons ?_ (Asks.cons ?_ (Asks.cons ?_ (Asks.cons ?_ (Asks.zero _)))))
 exact Ask.plain rfl rfl fun aq wq hNq hO hR hT => does_move (V := i64 ((k : Nat) : Int)) ((hO 11 rfl).trans s11_5) ⟨Ext.refl _, rfl⟩
 exact Ask.plain rfl rfl fun aq wq hNq hO hR hT => does_indexSl (T := NI) (xs := steps msg) (i := ((k : Nat) : Int)) (X := (steps msg).getD k 0) sli_61 rfl (SlT.at ((hO 9 rfl).trans s9_5) (hsx9_5.ext' hR)) ((hO 11 rfl).trans s11_5) (by omega) (steps_get msg hk35) (fun v h => ⟨Ext.refl _, h⟩)
 exact Ask.plain rfl rfl fun aq wq hNq hO hR hT => does_loadP1 (V := i64 (((steps msg).getD k 0 : Nat) : Int)) (hT 14 rfl rfl) one_3 ⟨Ext.refl _, rfl⟩
 exact Ask.plain rfl rfl fun aq wq hNq hO hR hT => does_assign (V := i64 ((k : Nat) : Int)) (hT 13 rfl rfl) ⟨Ext.refl _, rfl⟩
 exact Ask.plain rfl rfl fun aq wq hNq hO hR hT => does_assign (V := i64 (((steps msg).getD k 0 : Nat) : Int)) (hT 15 rfl rfl) ⟨Ext.refl _, rfl⟩
 intro a6 wd6 hN_6 hD_6 hO hR hA hU
 obtain ⟨_, _, _, t6, t7, _⟩ := hA
 have hE_6 := hE_5.trans hR
 have s2_6 := (hO 2 rfl).trans s2_5
 have s5_6 := (hO 5 rfl).trans s5_5
 have s9_6 := (hO 9 rfl).trans s9_5
 have s10_6 := (hO 10 rfl).trans s10_5
 have s11_6 := (hO 11 rfl).trans s11_5
 have hbb2_6 := hbb2_5.ext' hR
 have hbb3_6 := hbb3_5.ext' hR
 have hsx9_6 := hsx9_5.ext' hR
 have hsxo_6 := hsxo_5.ext' hR
 have hoxo_6 := hoxo_5.ext' hR
 have hox9_6 := hox9_5.ext' hR
 have s6_6 : get a6 6 = i64 ((k : Nat) : Int) := t6
 have s7_6 : get a6 7 = i64 (((steps msg).getD k 0 : Nat) : Int) := t7
 clear hE_5 hN_5 hD_5 s2_5 s5_5 s9_5 s10_5 s11_5 s12_5 hbb2_5 hbb3_5 hsx9_5 hsxo_5 hoxo_5 hox9_5
 refine tail_nil ?_
 refine region_lex [] [(16, Pr.ex (xo)), (17, Pr.ex (Dg.val (seed))), (18, Pr.ex (i64 ((k : Nat) : Int))), (19, Pr.ex (Dg.val (Sd.start seed k))), (20, Pr.ex (i64 (((steps msg).getD k 0 : Nat) : Int))), (21, Pr.ex (Dg.val (walk (Sd.start seed k) ((steps msg).getD k 0)))), (22, Pr.own' DG wd6.heap.size 24 ([walk (Sd.start seed k) ((steps msg).getD k 0)]))] 7 hN_6 hD_6 (by kernel_rfl) (by kernel_rfl) ?_ ?_
 refine Asks.cons ?_ (Asks.cons ?_ (Asks.cons ?_ (Asks.cons ?_ (Asks.cons ?_ (Asks.cons ?_ (Asks.cons ?_ (Asks.zero _)))))))
 exact Ask.plain rfl rfl fun aq wq hNq hO hR hT => does_move (V := xo) ((hO 5 rfl).trans s5_6) ⟨Ext.refl _, rfl⟩
 exact Ask.plain rfl rfl fun aq wq hNq hO hR hT => does_loadD (o := 0) (n := 4) (mid := [w32 (seed).a, w32 (seed).b, w32 (seed).c, w32 (seed).d]) ((hO 2 rfl).trans s2_6) (hbb2_6.ext' hR) rfl rfl (Nat.le_of_ble_eq_true rfl) row_24 rfl ⟨Ext.refl _, rfl⟩
 exact Ask.plain rfl rfl fun aq wq hNq hO hR hT => does_move (V := i64 ((k : Nat) : Int)) ((hO 6 rfl).trans s6_6) ⟨Ext.refl _, rfl⟩
 exact Ask.plain rfl rfl fun aq wq hNq hO hR hT => does_ret (vs := #[Dg.val (seed), i64 ((k : Nat) : Int)]) call_34 (args2 (hT 17 rfl rfl) (hT 18 rfl rfl)) rfl ((begin_ seed k wq (hL.ext (hE_6.trans hR))).mono fun v w2 h => ⟨h.2, h.1⟩)
 exact Ask.plain rfl rfl fun aq wq hNq hO hR hT => does_move (V := i64 (((steps msg).getD k 0 : Nat) : Int)) ((hO 7 rfl).trans s7_6) ⟨Ext.refl _, rfl⟩
 exact Ask.plain rfl rfl fun aq wq hNq hO hR hT => does_ret (vs := #[Dg.val (Sd.start seed k), i64 (((steps msg).getD k 0 : Nat) : Int)]) call_33 (args2 (hT 19 rfl rfl) (hT 20 rfl rfl)) rfl ((along_ (Sd.start seed k) ((steps msg).getD k 0) wq (hL.ext (hE_6.trans hR)) (by omega)).mono fun v w2 h => ⟨h.2, h.1⟩)
 exact Ask.plain rfl rfl fun aq wq hNq hO hR hT => does_slice1 (T := DG) (X := walk (Sd.start seed k) ((steps msg).getD k 0)) (V := Dg.val (walk (Sd.start seed k) ((steps msg).getD k 0))) app_35 rfl (by decide) (hT 21 rfl rfl) rfl (fun v w2 he _ ho => ⟨he, OwnT.base ho hR.size'⟩)
 intro a7 wd7 hN_7 hD_7 hO hR hA hU
 obtain ⟨t16, _, _, _, _, _, t22, _⟩ := hA
 have hE_7 := hE_6.trans hR
 have s2_7 := (hO 2 rfl).trans s2_6
 have s5_7 := (hO 5 rfl).trans s5_6
 have s9_7 := (hO 9 rfl).trans s9_6
 have s10_7 := (hO 10 rfl).trans s10_6
 have s11_7 := (hO 11 rfl).trans s11_6
 have hbb2_7 := hbb2_6.ext' hR
 have hbb3_7 := hbb3_6.ext' hR
 have hsx9_7 := hsx9_6.ext' hR
 have hsxo_7 := hsxo_6.ext' hR
 have hoxo_7 := hoxo_6.ext' hR
 have hox9_7 := hox9_6.ext' hR
 have s16_7 : get a7 16 = xo := t16
 obtain ⟨x22, s22_7⟩ : ∃ x, get a7 22 = x := ⟨_, rfl⟩
 replace t22 : OwnT DG wd6.heap.size 24 ([walk (Sd.start seed k) ((steps msg).getD k 0)]) x22 wd7 := by rw [← s22_7]; exact t22
 have nbo_x22_b2 : x22.ownBlock ≠ some b2 := fun e => Nat.lt_irrefl _ (Nat.lt_of_lt_of_le hbb2_6.lt (OwnT.block_lt t22 e).1)
 have nbo_x22_b3 : x22.ownBlock ≠ some b3 := fun e => Nat.lt_irrefl _ (Nat.lt_of_lt_of_le hbb3_6.lt (OwnT.block_lt t22 e).1)
 have no_x22_xo : ∀ k, x22.ownBlock = some k → xo.ownBlock ≠ some k := fun k e e' => Nat.lt_irrefl _ (Nat.lt_of_lt_of_le (OwnT.block_lt hoxo_6 e').2 (OwnT.block_lt t22 e).1)
 have no_x22_x9 : ∀ k, x22.ownBlock = some k → x9.ownBlock ≠ some k := fun k e e' => Nat.lt_irrefl _ (Nat.lt_of_lt_of_le (OwnT.block_lt hox9_6 e').2 (OwnT.block_lt t22 e).1)
 have hsx22_7 := t22.sl.wide (Nat.zero_le _) (.inl rfl)
 have hox22_7 := OwnT.base t22 hE_6.size'
 clear hE_6 hN_6 hD_6 s2_6 s5_6 s6_6 s7_6 s9_6 s10_6 s11_6 hbb2_6 hbb3_6 hsx9_6 hsxo_6 hoxo_6 hox9_6
 refine tail_put rfl rfl hN_7 hD_7 (by decide) (does_append (T := DG) (base := w0.heap.size) (xs := (List.range k).map (sgn seed msg)) (ys := [walk (Sd.start seed k) ((steps msg).getD k 0)]) (v := xo) app_35 s16_7 hoxo_7 (SlT.at s22_7 hsx22_7) (by simp) (by simp only [List.length_map, List.length_range, List.length_cons, List.length_nil]; omega) (by simp only [List.length_map, List.length_range, List.length_cons, List.length_nil]; omega) hE_7.size' (fun x23 wd8 hX hox23_8 hk a8 hN_8 hD_8 hv hO => ?_))
 have hE_8 := hE_7.since hX (fun b hb => Nat.le_trans (Nat.le_refl _) (OwnT.block_lt hoxo_7 hb).1)
 have hbb2_8 := hbb2_7.ext hX nbo_xo_b2
 have nbo_x23_b2 : x23.ownBlock ≠ some b2 := fun e => (hk _ e).elim nbo_xo_b2 (fun h => Nat.lt_irrefl _ (Nat.lt_of_lt_of_le hbb2_7.lt h))
 have hbb3_8 := hbb3_7.ext hX nbo_xo_b3
 have nbo_x23_b3 : x23.ownBlock ≠ some b3 := fun e => (hk _ e).elim nbo_xo_b3 (fun h => Nat.lt_irrefl _ (Nat.lt_of_lt_of_le hbb3_7.lt h))
 have no_xo_x9 := OwnT.apart hoxo_7 hox9_7 (by decide)
 have hox9_8 := OwnT.ext hox9_7 hX (fun k hk e => no_xo_x9 k e hk)
 have no_x23_x9 : ∀ k, x23.ownBlock = some k → x9.ownBlock ≠ some k := fun k e e' => (hk k e).elim (fun h => no_xo_x9 k h e') (fun h => Nat.lt_irrefl _ (Nat.lt_of_lt_of_le (OwnT.block_lt hox9_7 e').2 h))
 have hsx9_8 := hox9_8.sl.wide (Nat.zero_le _) (.inl rfl)
 have hox22_8 := OwnT.ext hox22_7 hX (fun k hk e => no_x22_xo k hk e)
 have no_x23_x22 : ∀ k, x23.ownBlock = some k → x22.ownBlock ≠ some k := fun k e e' => (hk k e).elim (fun h => no_x22_xo k e' h) (fun h => Nat.lt_irrefl _ (Nat.lt_of_lt_of_le (OwnT.block_lt hox22_7 e').2 h))
 have hsx22_8 := hox22_8.sl.wide (Nat.zero_le _) (.inl rfl)
 have hsx23_8 := hox23_8.sl.wide (Nat.zero_le _) (.inl rfl)
 rw [(show (List.range k).map (sgn seed msg) ++ [walk (Sd.start seed k) ((steps msg).getD k 0)] = (List.range (k + 1)).map (sgn seed msg) from range_step rfl)] at hox23_8 hsx23_8
 have s23_8 := hv
 have s2_8 := (hO 2 rfl).trans s2_7
 have s5_8 := (hO 5 rfl).trans s5_7
 have s9_8 := (hO 9 rfl).trans s9_7
 have s10_8 := (hO 10 rfl).trans s10_7
 have s11_8 := (hO 11 rfl).trans s11_7
 clear hO hv hX hk hN_7 hD_7 hE_7 hbb2_7 hbb3_7 hox9_7 hox22_7 s2_7 s5_7 s9_7 s10_7 s11_7 s16_7 s22_7
 refine tail_put rfl rfl hN_8 hD_8 (by decide) (does_assign (V := x23) s23_8 (fun a9 hN_9 hD_9 hv hO => ?_))
 have s5_9 := hv
 have s2_9 := (hO 2 rfl).trans s2_8
 have s9_9 := (hO 9 rfl).trans s9_8
 have s10_9 := (hO 10 rfl).trans s10_8
 have s11_9 := (hO 11 rfl).trans s11_8
 clear hO hv hN_8 hD_8 s2_8 s9_8 s10_8 s11_8 s23_8 s5_8
 refine tail_nil ?_
 refine region_lex [] [(24, Pr.ex (i64 ((k + 1 : Nat) : Int)))] 1 hN_9 hD_9 (by kernel_rfl) (by kernel_rfl) ?_ ?_
 refine Asks.cons ?_ (Asks.zero _)
 exact Ask.plain rfl rfl fun aq wq hNq hO hR hT => does_add (a := ((k : Nat) : Int)) (b := ((1 : Nat) : Int)) (r := ((k + 1 : Nat) : Int)) ((hO 11 rfl).trans s11_9) rfl (by omega) (by omega) (by omega) ⟨Ext.refl _, rfl⟩
 intro a10 wd10 hN_10 hD_10 hO hR hA hU
 obtain ⟨t24, _⟩ := hA
 have hE_10 := hE_8.trans hR
 have s2_10 := (hO 2 rfl).trans s2_9
 have s5_10 := (hO 5 rfl).trans s5_9
 have s9_10 := (hO 9 rfl).trans s9_9
 have s10_10 := (hO 10 rfl).trans s10_9
 have s11_10 := (hO 11 rfl).trans s11_9
 have hbb2_10 := hbb2_8.ext' hR
 have hbb3_10 := hbb3_8.ext' hR
 have hsx9_10 := hsx9_8.ext' hR
 have hsx22_10 := hsx22_8.ext' hR
 have hsx23_10 := hsx23_8.ext' hR
 have hox9_10 := hox9_8.ext' hR
 have hox22_10 := hox22_8.ext' hR
 have hox23_10 := hox23_8.ext' hR
 have s24_10 : get a10 24 = i64 ((k + 1 : Nat) : Int) := t24
 clear hE_8 hN_9 hD_9 s2_9 s5_9 s9_9 s10_9 s11_9 hbb2_8 hbb3_8 hsx9_8 hsx22_8 hsx23_8 hox9_8 hox22_8 hox23_8
 refine tail_put rfl rfl hN_10 hD_10 (by decide) (does_move (V := i64 ((k + 1 : Nat) : Int)) s24_10 (fun a11 hN_11 hD_11 hv hO => ?_))
 have s11_11 := hv
 have s2_11 := (hO 2 rfl).trans s2_10
 have s5_11 := (hO 5 rfl).trans s5_10
 have s9_11 := (hO 9 rfl).trans s9_10
 have s10_11 := (hO 10 rfl).trans s10_10
 clear hO hv hN_10 hD_10 s2_10 s5_10 s9_10 s10_10 s24_10 s11_10
 refine tail_nil ?_
 exact ⟨_, by omega, k + 1, x23, rfl, hN_11, hD_11, s2_11, s5_11, s9_11, s10_11, s11_11, hE_10, hbb2_10, hbb3_10, hsx9_10, hox23_10, nbo_x23_b2, nbo_x23_b3, hox9_10, nbo_x9_b2, nbo_x9_b3, by omega⟩
 have hc0 := of_decide_eq_false hc0
 have hk35 : k = 35 := by have := steps_length msg; omega
 refine wp_exit ?_
 refine wp_seq ?_
 refine region_lex [] [(25, Pr.ex (xo)), (4, Pr.ex (xo))] 2 hN_5 hD_5 (by kernel_rfl) (by kernel_rfl) ?_ ?_
 refine Asks.cons ?_ (Asks.cons ?_ (Asks.zero _))
 exact Ask.plain rfl rfl fun aq wq hNq hO hR hT => does_move (V := xo) ((hO 5 rfl).trans s5_5) ⟨Ext.refl _, rfl⟩
 exact Ask.plain rfl rfl fun aq wq hNq hO hR hT => does_assign (V := xo) (hT 25 rfl rfl) ⟨Ext.refl _, rfl⟩
 intro a12 wd12 hN_12 hD_12 hO hR hA hU
 obtain ⟨_, t4, _⟩ := hA
 have hE_12 := hE_5.trans hR
 have hbb2_12 := hbb2_5.ext' hR
 have hbb3_12 := hbb3_5.ext' hR
 have hsx9_12 := hsx9_5.ext' hR
 have hsxo_12 := hsxo_5.ext' hR
 have hoxo_12 := hoxo_5.ext' hR
 have hox9_12 := hox9_5.ext' hR
 have s4_12 : get a12 4 = xo := t4
 clear hE_5 hN_5 hD_5 s2_5 s5_5 s9_5 s10_5 s11_5 s12_5 hbb2_5 hbb3_5 hsx9_5 hsxo_5 hoxo_5 hox9_5
 refine tail_nil ?_
 refine wp_ret ?_
 refine res_one (V := xo) rfl hD_12 s4_12 ?_
 have ho := hoxo_12
 rw [hk35, ← signed_eq] at ho
 exact ⟨ho, hE_12⟩

end Go.Proofs.YtaeohnkfmachfabDoor
