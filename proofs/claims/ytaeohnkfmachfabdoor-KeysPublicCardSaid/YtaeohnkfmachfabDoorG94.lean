/- The walks of functions of the program: printed. -/
import Derived.Test.YtaeohnkfmachfabDoorKB
import Derived.Test.YtaeohnkfmachfabDoorG7
import Derived.Test.YtaeohnkfmachfabDoorG93
import Derived.Test.YtaeohnkfmachfabDoorF0
set_option maxRecDepth 100000
namespace Go.Proofs.YtaeohnkfmachfabDoor
open Go Go.RowKit Sk Sd
theorem high_ (h : Int) (w0 : World) :
    Gives Tryd.prog 22 #[i64 (h)] w0 (Pr.ex (Value.bool (highB h))) := by
 refine enter (N := 9) Tryd.func22 rfl rfl ?_
 intro a0 hN_0 hD_0 hA
 have s0_0 : get a0 0 = i64 (h) := hA 0 _ rfl
 clear hA
 have hE_0 : Ext w0 w0 := Ext.refl w0
 refine wp_seq ?_
 refine region_lex [] [(2, Pr.ex (Value.bool (false)))] 1 hN_0 hD_0 (by kernel_rfl) (by kernel_rfl) ?_ ?_
 refine Asks.cons ?_ (Asks.zero _)
 exact Ask.plain rfl rfl fun aq wq hNq hO hR hT => does_assign (V := Value.bool (false)) rfl ⟨Ext.refl _, rfl⟩
 intro a1 wd1 hN_1 hD_1 hO hR hA hU
 obtain ⟨_, _⟩ := hA
 have hE_1 := hE_0.trans hR
 have s0_1 := (hO 0 rfl).trans s0_0
 clear hE_0 hN_0 hD_0 s0_0
 refine tail_nil ?_
 refine wp_seq ?_
 refine region_lex [] [(3, Pr.ex (i64 (h))), (4, Pr.ex (Value.bool (decide (((0 : Nat) : Int) ≤ h)))), (5, Pr.ex (Value.bool (decide (((0 : Nat) : Int) ≤ h)))), (6, Pr.ifb (decide (((0 : Nat) : Int) ≤ h)) (Pr.ex (i64 (h)))), (7, Pr.ifb (decide (((0 : Nat) : Int) ≤ h)) (Pr.ex (Value.bool (decide (h ≤ ((4 : Nat) : Int)))))), (8, Pr.ex (Value.bool ((decide (((0 : Nat) : Int) ≤ h)) && (decide (h ≤ ((4 : Nat) : Int)))))), (2, Pr.ex (Value.bool ((decide (((0 : Nat) : Int) ≤ h)) && (decide (h ≤ ((4 : Nat) : Int))))))] 7 hN_1 hD_1 (by kernel_rfl) (by kernel_rfl) ?_ ?_
 refine Asks.cons ?_ (Asks.cons ?_ (Asks.cons ?_ (Asks.cons ?_ (Asks.cons ?_ (Asks.cons ?_ (Asks.cons ?_ (Asks.zero _)))))))
 exact Ask.plain rfl rfl fun aq wq hNq hO hR hT => does_move (V := i64 (h)) ((hO 0 rfl).trans s0_1) ⟨Ext.refl _, rfl⟩
 exact Ask.plain rfl rfl fun aq wq hNq hO hR hT => does_geq (a := h) (b := ((0 : Nat) : Int)) (hT 3 rfl rfl) rfl ⟨Ext.refl _, rfl⟩
 exact Ask.plain rfl rfl fun aq wq hNq hO hR hT => does_move (V := Value.bool (decide (((0 : Nat) : Int) ≤ h))) (hT 4 rfl rfl) ⟨Ext.refl _, rfl⟩
 refine Ask.guarded (B := decide (((0 : Nat) : Int) ≤ h)) (want := true) (t := 5) rfl rfl rfl rfl (by decide) (fun aq wq hO hR hT => hT 5 rfl rfl) (fun hG aq wq hNq hO hR hT => ?_) (fun hno _ => fun hc => absurd hc hno)
 exact does_move (V := i64 (h)) ((hO 0 rfl).trans s0_1) ⟨Ext.refl _, fun _ => rfl⟩
 refine Ask.guarded (B := decide (((0 : Nat) : Int) ≤ h)) (want := true) (t := 5) rfl rfl rfl rfl (by decide) (fun aq wq hO hR hT => hT 5 rfl rfl) (fun hG aq wq hNq hO hR hT => ?_) (fun hno _ => fun hc => absurd hc hno)
 exact does_leq (a := h) (b := ((4 : Nat) : Int)) (hT 6 rfl rfl hG) rfl ⟨Ext.refl _, fun _ => rfl⟩
 exact Ask.plain rfl rfl fun aq wq hNq hO hR hT => does_and (B := decide (((0 : Nat) : Int) ≤ h)) (X := decide (h ≤ ((4 : Nat) : Int))) (hT 5 rfl rfl) (fun hB => (hT 7 rfl rfl hB)) rfl ⟨Ext.refl _, rfl⟩
 exact Ask.plain rfl rfl fun aq wq hNq hO hR hT => does_assign (V := Value.bool ((decide (((0 : Nat) : Int) ≤ h)) && (decide (h ≤ ((4 : Nat) : Int))))) (hT 8 rfl rfl) ⟨Ext.refl _, rfl⟩
 intro a2 wd2 hN_2 hD_2 hO hR hA hU
 obtain ⟨_, _, _, _, _, _, t2, _⟩ := hA
 have hE_2 := hE_1.trans hR
 have s2_2 : get a2 2 = Value.bool ((decide (((0 : Nat) : Int) ≤ h)) && (decide (h ≤ ((4 : Nat) : Int)))) := t2
 clear hE_1 hN_1 hD_1 s0_1
 refine tail_nil ?_
 refine wp_ret ?_
 refine res_one (V := Value.bool ((decide (((0 : Nat) : Int) ≤ h)) && (decide (h ≤ ((4 : Nat) : Int))))) rfl hD_2 s2_2 ?_
 exact ⟨rfl, hE_2⟩

theorem keyPub_ (seed : Dg) (h : Int) (w0 : World) (hL : Laid w0) :
    Gives Tryd.prog 8 #[Dg.val (seed), i64 (h)] w0 (Pr.ex (Value.tuple #[Dg.val (keyPub seed h).1, i64 (((keyPub seed h).2 : Nat) : Int)])) := by
 refine enter (N := 14) Tryd.func8 rfl rfl ?_
 intro a0 hN_0 hD_0 hA
 have s0_0 : get a0 0 = Dg.val (seed) := hA 0 _ rfl
 have s1_0 : get a0 1 = i64 (h) := hA 1 _ rfl
 clear hA
 have hE_0 : Ext w0 w0 := Ext.refl w0
 refine wp_seq ?_
 refine region_lex [2, 4] [(2, Pr.box' w0.heap.size 24 [w32 (seed).a, w32 (seed).b, w32 (seed).c, w32 (seed).d]), (4, Pr.box' w0.heap.size 24 [w32 (Dg.zero).a, w32 (Dg.zero).b, w32 (Dg.zero).c, w32 (Dg.zero).d]), (5, Pr.ex (i64 ((0 : Nat) : Int)))] 3 hN_0 hD_0 (by kernel_rfl) (by kernel_rfl) ?_ ?_
 refine Asks.cons ?_ (Asks.cons ?_ (Asks.cons ?_ (Asks.zero _)))
 refine Ask.fresh rfl rfl ?_
 intro aq wq hNq hO hR hT
 exact does_box (V := Dg.val (seed)) ((hO 0 rfl).trans s0_0) (fun b w2 he hlo hb => ⟨he, ⟨b, rfl, Nat.le_trans hR.size' hlo, hb⟩, ⟨b, rfl, hlo, hb.lt⟩⟩)
 refine Ask.fresh rfl rfl ?_
 intro aq wq hNq hO hR hT
 exact does_alloc zero_24 (fun b w2 he hlo hb => ⟨he, ⟨b, rfl, Nat.le_trans hR.size' hlo, hb⟩, ⟨b, rfl, hlo, hb.lt⟩⟩)
 exact Ask.plain rfl rfl fun aq wq hNq hO hR hT => does_assign (V := i64 ((0 : Nat) : Int)) rfl ⟨Ext.refl _, rfl⟩
 intro a1 wd1 hN_1 hD_1 hO hR hA hU
 obtain ⟨t2, t4, _, _⟩ := hA
 have hE_1 := hE_0.trans hR
 have s1_1 := (hO 1 rfl).trans s1_0
 obtain ⟨b2, s2_1, lo_b2, hbb2_1⟩ := t2
 have fr_b2 : w0.heap.size ≤ b2 := Nat.le_trans hE_0.size' lo_b2
 obtain ⟨b4, s4_1, lo_b4, hbb4_1⟩ := t4
 have fr_b4 : w0.heap.size ≤ b4 := Nat.le_trans hE_0.size' lo_b4
 obtain ⟨u0, ⟨u1, _⟩⟩ := hU
 have ne_b2_b4 : b2 ≠ b4 := fun e => u0 4 (by decide) (by rw [s2_1, s4_1, e])
 clear hE_0 hN_0 hD_0 s0_0 s1_0
 refine tail_nil ?_
 refine wp_seq ?_
 refine wp_seq ?_
 refine region_lex [] [(6, Pr.ex (i64 (h))), (7, Pr.ex (Value.bool (highB h))), (8, Pr.ex (Value.bool (!(highB h))))] 3 hN_1 hD_1 (by kernel_rfl) (by kernel_rfl) ?_ ?_
 refine Asks.cons ?_ (Asks.cons ?_ (Asks.cons ?_ (Asks.zero _)))
 exact Ask.plain rfl rfl fun aq wq hNq hO hR hT => does_move (V := i64 (h)) ((hO 1 rfl).trans s1_1) ⟨Ext.refl _, rfl⟩
 exact Ask.plain rfl rfl fun aq wq hNq hO hR hT => does_ret (vs := #[i64 (h)]) call_22 (args1 (hT 6 rfl rfl)) rfl ((high_ h wq).mono fun v w2 h => ⟨h.2, h.1⟩)
 exact Ask.plain rfl rfl fun aq wq hNq hO hR hT => does_not (B := highB h) (hT 7 rfl rfl) ⟨Ext.refl _, rfl⟩
 intro a2 wd2 hN_2 hD_2 hO hR hA hU
 obtain ⟨_, _, t8, _⟩ := hA
 have hE_2 := hE_1.trans hR
 have s1_2 := (hO 1 rfl).trans s1_1
 have s2_2 := (hO 2 rfl).trans s2_1
 have s4_2 := (hO 4 rfl).trans s4_1
 have hbb2_2 := hbb2_1.ext' hR
 have hbb4_2 := hbb4_1.ext' hR
 have s8_2 : get a2 8 = Value.bool (!(highB h)) := t8
 clear hE_1 hN_1 hD_1 s1_1 s2_1 s4_1 hbb2_1 hbb4_1
 refine tail_nil ?_
 refine wp_if (B := !(highB h)) s8_2 (fun hc0 => ?_) (fun hc0 => ?_)
 have hb : ¬ (0 ≤ h ∧ h ≤ 4) := by simp [highB] at hc0; omega
 refine wp_seq ?_
 refine region_lex [] [(9, Pr.ex (Dg.val (Dg.zero)))] 1 hN_2 hD_2 (by kernel_rfl) (by kernel_rfl) ?_ ?_
 refine Asks.cons ?_ (Asks.zero _)
 exact Ask.plain rfl rfl fun aq wq hNq hO hR hT => does_build (vs := #[]) (V := Dg.val (Dg.zero)) parts0 (by kernel_rfl) ⟨Ext.refl _, rfl⟩
 intro a3 wd3 hN_3 hD_3 hO hR hA hU
 obtain ⟨t9, _⟩ := hA
 have hE_3 := hE_2.trans hR
 have s4_3 := (hO 4 rfl).trans s4_2
 have hbb2_3 := hbb2_2.ext' hR
 have hbb4_3 := hbb4_2.ext' hR
 have s9_3 : get a3 9 = Dg.val (Dg.zero) := t9
 clear hE_2 hN_2 hD_2 s1_2 s2_2 s4_2 s8_2 hbb2_2 hbb4_2
 refine tail_none rfl rfl (does_storeD (o := 0) (n := 4) (cs' := [w32 (Dg.zero).a, w32 (Dg.zero).b, w32 (Dg.zero).c, w32 (Dg.zero).d]) (V := Dg.val (Dg.zero)) s4_3 s9_3 hbb4_3 (Nat.le_of_ble_eq_true rfl) rfl siz_24 rfl rfl (fun wd4 hX hz hbb4_4 => ?_))
 have hE_4 := hE_3.since hX (fun k e => e ▸ fr_b4)
 have hbb2_4 := hbb2_3.ext hX ne_b2_b4
 clear hX hz hE_3 hbb2_3 hbb4_3
 refine tail_put rfl rfl hN_3 hD_3 (by decide) (does_assign (V := i64 ((2 : Nat) : Int)) rfl (fun a5 hN_5 hD_5 hv hO => ?_))
 have s5_5 := hv
 have s4_5 := (hO 4 rfl).trans s4_3
 clear hO hv hN_3 hD_3 s4_3 s9_3
 refine tail_nil ?_
 refine wp_ret ?_
 refine res_two (V1 := Dg.val (Dg.zero)) (V2 := i64 ((2 : Nat) : Int)) rfl hD_5 (ResIs.cell s4_5 hbb4_4 row_24 rfl rfl) s5_5 ?_
 rw [keyPub_no hb]
 exact ⟨rfl, hE_4⟩
 have hb : 0 ≤ h ∧ h ≤ 4 := by simpa [highB] using hc0
 refine wp_skip ?_
 refine wp_seq ?_
 obtain ⟨n, rfl⟩ : ∃ n : Nat, h = (n : Int) := ⟨(h).toNat, by omega⟩
 have hn4 : n ≤ 4 := by omega
 have hp16 := pw_small hn4
 refine region_lex [] [(10, Pr.ex (Dg.val (seed))), (11, Pr.ex (i64 ((n : Nat) : Int))), (12, Pr.own' DG wd2.heap.size 24 (publics seed (pw n))), (13, Pr.ex (Dg.val (root (publics seed (pw n)))))] 4 hN_2 hD_2 (by kernel_rfl) (by kernel_rfl) ?_ ?_
 refine Asks.cons ?_ (Asks.cons ?_ (Asks.cons ?_ (Asks.cons ?_ (Asks.zero _))))
 exact Ask.plain rfl rfl fun aq wq hNq hO hR hT => does_loadD (o := 0) (n := 4) (mid := [w32 (seed).a, w32 (seed).b, w32 (seed).c, w32 (seed).d]) ((hO 2 rfl).trans s2_2) (hbb2_2.ext' hR) rfl rfl (Nat.le_of_ble_eq_true rfl) row_24 rfl ⟨Ext.refl _, rfl⟩
 exact Ask.plain rfl rfl fun aq wq hNq hO hR hT => does_move (V := i64 ((n : Nat) : Int)) ((hO 1 rfl).trans s1_2) ⟨Ext.refl _, rfl⟩
 exact Ask.plain rfl rfl fun aq wq hNq hO hR hT => does_ret (vs := #[Dg.val (seed), i64 ((n : Nat) : Int)]) call_24 (args2 (hT 10 rfl rfl) (hT 11 rfl rfl)) rfl ((publics_ seed n wq (hL.ext (hE_2.trans hR)) hn4).mono fun v w2 h => ⟨h.2, OwnT.base h.1 hR.size'⟩)
 exact Ask.plain rfl rfl fun aq wq hNq hO hR hT => does_ret (vs := #[get aq 12]) call_23 (args1 rfl) rfl ((root_ (publics seed (pw n)) (get aq 12) wq (hL.ext (hE_2.trans hR)) (((OwnT.sl (hT 12 rfl rfl)).wide (Nat.zero_le _) (.inl rfl)).wide (Nat.zero_le _) (.inl rfl)) (by rw [publics_length]; omega)).mono fun v w2 h => ⟨h.2, h.1⟩)
 intro a6 wd6 hN_6 hD_6 hO hR hA hU
 obtain ⟨_, _, _, t13, _⟩ := hA
 have hE_6 := hE_2.trans hR
 have s4_6 := (hO 4 rfl).trans s4_2
 have hbb2_6 := hbb2_2.ext' hR
 have hbb4_6 := hbb4_2.ext' hR
 have s13_6 : get a6 13 = Dg.val (root (publics seed (pw n))) := t13
 clear hE_2 hN_2 hD_2 s1_2 s2_2 s4_2 s8_2 hbb2_2 hbb4_2
 refine tail_none rfl rfl (does_storeD (o := 0) (n := 4) (cs' := [w32 (root (publics seed (pw n))).a, w32 (root (publics seed (pw n))).b, w32 (root (publics seed (pw n))).c, w32 (root (publics seed (pw n))).d]) (V := Dg.val (root (publics seed (pw n)))) s4_6 s13_6 hbb4_6 (Nat.le_of_ble_eq_true rfl) rfl siz_24 rfl rfl (fun wd7 hX hz hbb4_7 => ?_))
 have hE_7 := hE_6.since hX (fun k e => e ▸ fr_b4)
 have hbb2_7 := hbb2_6.ext hX ne_b2_b4
 clear hX hz hE_6 hbb2_6 hbb4_6
 refine tail_put rfl rfl hN_6 hD_6 (by decide) (does_assign (V := i64 ((0 : Nat) : Int)) rfl (fun a8 hN_8 hD_8 hv hO => ?_))
 have s5_8 := hv
 have s4_8 := (hO 4 rfl).trans s4_6
 clear hO hv hN_6 hD_6 s4_6 s13_6
 refine tail_nil ?_
 refine wp_ret ?_
 refine res_two (V1 := Dg.val (root (publics seed (pw n)))) (V2 := i64 ((0 : Nat) : Int)) rfl hD_8 (ResIs.cell s4_8 hbb4_7 row_24 rfl rfl) s5_8 ?_
 rw [keyPub_ok hn4]
 exact ⟨rfl, hE_7⟩

theorem keyPub_k (seed : Dg) (n : Nat) (w0 : World) (hL : Laid w0) (hn : n ≤ 4) : Gives Tryd.prog 8 #[Dg.val seed, i64 ((n : Nat) : Int)] w0 (Pr.ex (Value.tuple #[Dg.val (root (publics seed (pw n))), i64 ((0 : Nat) : Int)])) := by
  have h := keyPub_ seed n w0 hL
  rw [keyPub_ok hn] at h
  exact h

theorem keyNew_ (seed : Dg) (h : Int) (w0 : World) :
    Gives Tryd.prog 10 #[Dg.val (seed), i64 (h)] w0 (Pr.ex (Value.tuple #[Value.agg #[w32 ((keyNew seed h).1).a, w32 ((keyNew seed h).1).b, w32 ((keyNew seed h).1).c, w32 ((keyNew seed h).1).d, i64 ((keyNew seed h).2.1), i64 (0)], i64 (((keyNew seed h).2.2 : Nat) : Int)])) := by
 refine enter (N := 13) Tryd.func10 rfl rfl ?_
 intro a0 hN_0 hD_0 hA
 have s0_0 : get a0 0 = Dg.val (seed) := hA 0 _ rfl
 have s1_0 : get a0 1 = i64 (h) := hA 1 _ rfl
 clear hA
 have hE_0 : Ext w0 w0 := Ext.refl w0
 refine wp_seq ?_
 refine region_lex [2, 4] [(2, Pr.box' w0.heap.size 24 [w32 (seed).a, w32 (seed).b, w32 (seed).c, w32 (seed).d]), (4, Pr.box' w0.heap.size 30 [w32 (Dg.zero).a, w32 (Dg.zero).b, w32 (Dg.zero).c, w32 (Dg.zero).d, i64 ((0 : Nat) : Int), i64 ((0 : Nat) : Int)]), (5, Pr.ex (i64 ((0 : Nat) : Int)))] 3 hN_0 hD_0 (by kernel_rfl) (by kernel_rfl) ?_ ?_
 refine Asks.cons ?_ (Asks.cons ?_ (Asks.cons ?_ (Asks.zero _)))
 refine Ask.fresh rfl rfl ?_
 intro aq wq hNq hO hR hT
 exact does_box (V := Dg.val (seed)) ((hO 0 rfl).trans s0_0) (fun b w2 he hlo hb => ⟨he, ⟨b, rfl, Nat.le_trans hR.size' hlo, hb⟩, ⟨b, rfl, hlo, hb.lt⟩⟩)
 refine Ask.fresh rfl rfl ?_
 intro aq wq hNq hO hR hT
 exact does_alloc zero_30 (fun b w2 he hlo hb => ⟨he, ⟨b, rfl, Nat.le_trans hR.size' hlo, hb⟩, ⟨b, rfl, hlo, hb.lt⟩⟩)
 exact Ask.plain rfl rfl fun aq wq hNq hO hR hT => does_assign (V := i64 ((0 : Nat) : Int)) rfl ⟨Ext.refl _, rfl⟩
 intro a1 wd1 hN_1 hD_1 hO hR hA hU
 obtain ⟨t2, t4, _, _⟩ := hA
 have hE_1 := hE_0.trans hR
 have s1_1 := (hO 1 rfl).trans s1_0
 obtain ⟨b2, s2_1, lo_b2, hbb2_1⟩ := t2
 have fr_b2 : w0.heap.size ≤ b2 := Nat.le_trans hE_0.size' lo_b2
 obtain ⟨b4, s4_1, lo_b4, hbb4_1⟩ := t4
 have fr_b4 : w0.heap.size ≤ b4 := Nat.le_trans hE_0.size' lo_b4
 obtain ⟨u0, ⟨u1, _⟩⟩ := hU
 have ne_b2_b4 : b2 ≠ b4 := fun e => u0 4 (by decide) (by rw [s2_1, s4_1, e])
 clear hE_0 hN_0 hD_0 s0_0 s1_0
 refine tail_nil ?_
 refine wp_seq ?_
 refine wp_seq ?_
 refine region_lex [] [(6, Pr.ex (i64 (h))), (7, Pr.ex (Value.bool (highB h))), (8, Pr.ex (Value.bool (!(highB h))))] 3 hN_1 hD_1 (by kernel_rfl) (by kernel_rfl) ?_ ?_
 refine Asks.cons ?_ (Asks.cons ?_ (Asks.cons ?_ (Asks.zero _)))
 exact Ask.plain rfl rfl fun aq wq hNq hO hR hT => does_move (V := i64 (h)) ((hO 1 rfl).trans s1_1) ⟨Ext.refl _, rfl⟩
 exact Ask.plain rfl rfl fun aq wq hNq hO hR hT => does_ret (vs := #[i64 (h)]) call_22 (args1 (hT 6 rfl rfl)) rfl ((high_ h wq).mono fun v w2 h => ⟨h.2, h.1⟩)
 exact Ask.plain rfl rfl fun aq wq hNq hO hR hT => does_not (B := highB h) (hT 7 rfl rfl) ⟨Ext.refl _, rfl⟩
 intro a2 wd2 hN_2 hD_2 hO hR hA hU
 obtain ⟨_, _, t8, _⟩ := hA
 have hE_2 := hE_1.trans hR
 have s1_2 := (hO 1 rfl).trans s1_1
 have s2_2 := (hO 2 rfl).trans s2_1
 have s4_2 := (hO 4 rfl).trans s4_1
 have hbb2_2 := hbb2_1.ext' hR
 have hbb4_2 := hbb4_1.ext' hR
 have s8_2 : get a2 8 = Value.bool (!(highB h)) := t8
 clear hE_1 hN_1 hD_1 s1_1 s2_1 s4_1 hbb2_1 hbb4_1
 refine tail_nil ?_
 refine wp_if (B := !(highB h)) s8_2 (fun hc0 => ?_) (fun hc0 => ?_)
 have hb : ¬ (0 ≤ h ∧ h ≤ 4) := by simp [highB] at hc0; omega
 refine wp_seq ?_
 refine region_lex [] [(9, Pr.ex (Value.agg #[w32 (Dg.zero).a, w32 (Dg.zero).b, w32 (Dg.zero).c, w32 (Dg.zero).d, i64 ((0 : Nat) : Int), i64 ((0 : Nat) : Int)]))] 1 hN_2 hD_2 (by kernel_rfl) (by kernel_rfl) ?_ ?_
 refine Asks.cons ?_ (Asks.zero _)
 exact Ask.plain rfl rfl fun aq wq hNq hO hR hT => does_build (vs := #[]) (V := Value.agg #[w32 (Dg.zero).a, w32 (Dg.zero).b, w32 (Dg.zero).c, w32 (Dg.zero).d, i64 ((0 : Nat) : Int), i64 ((0 : Nat) : Int)]) parts0 (by kernel_rfl) ⟨Ext.refl _, rfl⟩
 intro a3 wd3 hN_3 hD_3 hO hR hA hU
 obtain ⟨t9, _⟩ := hA
 have hE_3 := hE_2.trans hR
 have s4_3 := (hO 4 rfl).trans s4_2
 have hbb2_3 := hbb2_2.ext' hR
 have hbb4_3 := hbb4_2.ext' hR
 have s9_3 : get a3 9 = Value.agg #[w32 (Dg.zero).a, w32 (Dg.zero).b, w32 (Dg.zero).c, w32 (Dg.zero).d, i64 ((0 : Nat) : Int), i64 ((0 : Nat) : Int)] := t9
 clear hE_2 hN_2 hD_2 s1_2 s2_2 s4_2 s8_2 hbb2_2 hbb4_2
 refine tail_none rfl rfl (does_storeD (o := 0) (n := 6) (cs' := [w32 (Dg.zero).a, w32 (Dg.zero).b, w32 (Dg.zero).c, w32 (Dg.zero).d, i64 ((0 : Nat) : Int), i64 ((0 : Nat) : Int)]) (V := Value.agg #[w32 (Dg.zero).a, w32 (Dg.zero).b, w32 (Dg.zero).c, w32 (Dg.zero).d, i64 ((0 : Nat) : Int), i64 ((0 : Nat) : Int)]) s4_3 s9_3 hbb4_3 (Nat.le_of_ble_eq_true rfl) rfl siz_30 rfl rfl (fun wd4 hX hz hbb4_4 => ?_))
 have hE_4 := hE_3.since hX (fun k e => e ▸ fr_b4)
 have hbb2_4 := hbb2_3.ext hX ne_b2_b4
 clear hX hz hE_3 hbb2_3 hbb4_3
 refine tail_put rfl rfl hN_3 hD_3 (by decide) (does_assign (V := i64 ((2 : Nat) : Int)) rfl (fun a5 hN_5 hD_5 hv hO => ?_))
 have s5_5 := hv
 have s4_5 := (hO 4 rfl).trans s4_3
 clear hO hv hN_3 hD_3 s4_3 s9_3
 refine tail_nil ?_
 refine wp_ret ?_
 refine res_two (V1 := Value.agg #[w32 (Dg.zero).a, w32 (Dg.zero).b, w32 (Dg.zero).c, w32 (Dg.zero).d, i64 ((0 : Nat) : Int), i64 ((0 : Nat) : Int)]) (V2 := i64 ((2 : Nat) : Int)) rfl hD_5 (ResIs.cell s4_5 hbb4_4 row_30 rfl rfl) s5_5 ?_
 rw [keyNew_no hb]
 exact ⟨rfl, hE_4⟩
 have hb : 0 ≤ h ∧ h ≤ 4 := by simpa [highB] using hc0
 refine wp_skip ?_
 refine wp_seq ?_
 refine region_lex [] [(10, Pr.ex (Dg.val (seed))), (11, Pr.ex (i64 (h))), (12, Pr.ex (Value.agg #[w32 (seed).a, w32 (seed).b, w32 (seed).c, w32 (seed).d, i64 (h), i64 ((0 : Nat) : Int)]))] 3 hN_2 hD_2 (by kernel_rfl) (by kernel_rfl) ?_ ?_
 refine Asks.cons ?_ (Asks.cons ?_ (Asks.cons ?_ (Asks.zero _)))
 exact Ask.plain rfl rfl fun aq wq hNq hO hR hT => does_loadD (o := 0) (n := 4) (mid := [w32 (seed).a, w32 (seed).b, w32 (seed).c, w32 (seed).d]) ((hO 2 rfl).trans s2_2) (hbb2_2.ext' hR) rfl rfl (Nat.le_of_ble_eq_true rfl) row_24 rfl ⟨Ext.refl _, rfl⟩
 exact Ask.plain rfl rfl fun aq wq hNq hO hR hT => does_move (V := i64 (h)) ((hO 1 rfl).trans s1_2) ⟨Ext.refl _, rfl⟩
 exact Ask.plain rfl rfl fun aq wq hNq hO hR hT => does_build (vs := #[(0, Dg.val (seed)), (1, i64 (h))]) (V := Value.agg #[w32 (seed).a, w32 (seed).b, w32 (seed).c, w32 (seed).d, i64 (h), i64 ((0 : Nat) : Int)]) (parts2 (hT 10 rfl rfl) (hT 11 rfl rfl)) (by kernel_rfl) ⟨Ext.refl _, rfl⟩
 intro a6 wd6 hN_6 hD_6 hO hR hA hU
 obtain ⟨_, _, t12, _⟩ := hA
 have hE_6 := hE_2.trans hR
 have s4_6 := (hO 4 rfl).trans s4_2
 have hbb2_6 := hbb2_2.ext' hR
 have hbb4_6 := hbb4_2.ext' hR
 have s12_6 : get a6 12 = Value.agg #[w32 (seed).a, w32 (seed).b, w32 (seed).c, w32 (seed).d, i64 (h), i64 ((0 : Nat) : Int)] := t12
 clear hE_2 hN_2 hD_2 s1_2 s2_2 s4_2 s8_2 hbb2_2 hbb4_2
 refine tail_none rfl rfl (does_storeD (o := 0) (n := 6) (cs' := [w32 (seed).a, w32 (seed).b, w32 (seed).c, w32 (seed).d, i64 (h), i64 ((0 : Nat) : Int)]) (V := Value.agg #[w32 (seed).a, w32 (seed).b, w32 (seed).c, w32 (seed).d, i64 (h), i64 ((0 : Nat) : Int)]) s4_6 s12_6 hbb4_6 (Nat.le_of_ble_eq_true rfl) rfl siz_30 rfl rfl (fun wd7 hX hz hbb4_7 => ?_))
 have hE_7 := hE_6.since hX (fun k e => e ▸ fr_b4)
 have hbb2_7 := hbb2_6.ext hX ne_b2_b4
 clear hX hz hE_6 hbb2_6 hbb4_6
 refine tail_put rfl rfl hN_6 hD_6 (by decide) (does_assign (V := i64 ((0 : Nat) : Int)) rfl (fun a8 hN_8 hD_8 hv hO => ?_))
 have s5_8 := hv
 have s4_8 := (hO 4 rfl).trans s4_6
 clear hO hv hN_6 hD_6 s4_6 s12_6
 refine tail_nil ?_
 refine wp_ret ?_
 refine res_two (V1 := Value.agg #[w32 (seed).a, w32 (seed).b, w32 (seed).c, w32 (seed).d, i64 (h), i64 ((0 : Nat) : Int)]) (V2 := i64 ((0 : Nat) : Int)) rfl hD_8 (ResIs.cell s4_8 hbb4_7 row_30 rfl rfl) s5_8 ?_
 rw [keyNew_ok hb]
 exact ⟨rfl, hE_7⟩

end Go.Proofs.YtaeohnkfmachfabDoor
