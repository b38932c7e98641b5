/- The walks of functions of the program: printed. -/
import Derived.Test.YtaeohnkfmachfabDoorK
import Derived.Test.YtaeohnkfmachfabDoorG90
import Derived.Test.YtaeohnkfmachfabDoorG92
import Derived.Test.YtaeohnkfmachfabDoorF0
set_option maxRecDepth 100000
namespace Go.Proofs.YtaeohnkfmachfabDoor
open Go Go.RowKit Sk Sd
theorem publics_ (seed : Dg) (h : Nat) (w0 : World) (hL : Laid w0) (hh : h ≤ 4) :
    Gives Tryd.prog 24 #[Dg.val (seed), i64 ((h : Nat) : Int)] w0 (Pr.own' DG w0.heap.size 24 (publics seed (pw h))) := by
 refine enter (N := 24) Tryd.func24 rfl rfl ?_
 intro a0 hN_0 hD_0 hA
 have s0_0 : get a0 0 = Dg.val (seed) := hA 0 _ rfl
 have s1_0 : get a0 1 = i64 ((h : Nat) : Int) := hA 1 _ rfl
 clear hA
 have hE_0 : Ext w0 w0 := Ext.refl w0
 have hw0 := Laid.pos hL
 have hp16 := pw_small hh
 refine wp_seq ?_
 refine region_lex [2] [(2, Pr.box' w0.heap.size 24 [w32 (seed).a, w32 (seed).b, w32 (seed).c, w32 (seed).d]), (4, Pr.ex (Value.slice none 0 0))] 2 hN_0 hD_0 (by kernel_rfl) (by kernel_rfl) ?_ ?_
 refine Asks.cons ?_ (Asks.cons ?_ (Asks.zero _))
 refine Ask.fresh rfl rfl ?_
 intro aq wq hNq hO hR hT
 exact does_box (V := Dg.val (seed)) ((hO 0 rfl).trans s0_0) (fun b w2 he hlo hb => ⟨he, ⟨b, rfl, Nat.le_trans hR.size' hlo, hb⟩, ⟨b, rfl, hlo, hb.lt⟩⟩)
 exact Ask.plain rfl rfl fun aq wq hNq hO hR hT => does_assign (V := Value.slice none 0 0) rfl ⟨Ext.refl _, rfl⟩
 intro a1 wd1 hN_1 hD_1 hO hR hA hU
 obtain ⟨t2, _, _⟩ := hA
 have hE_1 := hE_0.trans hR
 have s1_1 := (hO 1 rfl).trans s1_0
 obtain ⟨b2, s2_1, lo_b2, hbb2_1⟩ := t2
 have fr_b2 : w0.heap.size ≤ b2 := Nat.le_trans hE_0.size' lo_b2
 clear hE_0 hN_0 hD_0 s0_0 s1_0
 refine tail_nil ?_
 refine wp_seq ?_
 refine region_lex [] [(8, Pr.ex (Dg.val (seed))), (9, Pr.fn 55 (wd1.heap.size) 79 [w32 (seed.a), w32 (seed.b), w32 (seed.c), w32 (seed.d), w32 (0)]), (5, Pr.fn 55 (wd1.heap.size) 79 [w32 (seed.a), w32 (seed.b), w32 (seed.c), w32 (seed.d), w32 (0)])] 3 hN_1 hD_1 (by kernel_rfl) (by kernel_rfl) ?_ ?_
 refine Asks.cons ?_ (Asks.cons ?_ (Asks.cons ?_ (Asks.zero _)))
 exact Ask.plain rfl rfl fun aq wq hNq hO hR hT => does_loadD (o := 0) (n := 4) (mid := [w32 (seed).a, w32 (seed).b, w32 (seed).c, w32 (seed).d]) ((hO 2 rfl).trans s2_1) (hbb2_1.ext' hR) rfl rfl (Nat.le_of_ble_eq_true rfl) row_24 rfl ⟨Ext.refl _, rfl⟩
 exact Ask.plain rfl rfl fun aq wq hNq hO hR hT => does_ret (vs := #[Dg.val (seed)]) call_38 (args1 (hT 8 rfl rfl)) rfl ((seeds_ seed wq).mono fun v w2 h => ⟨h.2, IsFn.lo h.1 hR.size'⟩)
 exact Ask.plain rfl rfl fun aq wq hNq hO hR hT => does_assign rfl ⟨Ext.refl _, (hT 9 rfl rfl)⟩
 intro a2 wd2 hN_2 hD_2 hO hR hA hU
 obtain ⟨_, _, t5, _⟩ := hA
 have hE_2 := hE_1.trans hR
 have s1_2 := (hO 1 rfl).trans s1_1
 have hbb2_2 := hbb2_1.ext' hR
 obtain ⟨b5, s5_2, lo_b5, hbb5_2⟩ := t5
 have ne_b2_b5 : b2 ≠ b5 := fun e => Nat.lt_irrefl _ (Nat.lt_of_lt_of_le hbb2_1.lt (e ▸ lo_b5))
 have fr_b5 : w0.heap.size ≤ b5 := Nat.le_trans hE_1.size' lo_b5
 clear hE_1 hN_1 hD_1 s1_1 s2_1 hbb2_1
 refine tail_nil ?_
 refine wp_seq ?_
 refine region_lex [] [(6, Pr.ex (Value.slice none 0 0))] 1 hN_2 hD_2 (by kernel_rfl) (by kernel_rfl) ?_ ?_
 refine Asks.cons ?_ (Asks.zero _)
 exact Ask.plain rfl rfl fun aq wq hNq hO hR hT => does_assign (V := Value.slice none 0 0) rfl ⟨Ext.refl _, rfl⟩
 intro a3 wd3 hN_3 hD_3 hO hR hA hU
 obtain ⟨t6, _⟩ := hA
 have hE_3 := hE_2.trans hR
 have s1_3 := (hO 1 rfl).trans s1_2
 have s5_3 := (hO 5 rfl).trans s5_2
 have hbb2_3 := hbb2_2.ext' hR
 have hbb5_3 := hbb5_2.ext' hR
 have s6_3 : get a3 6 = Value.slice none 0 0 := t6
 clear hE_2 hN_2 hD_2 s1_2 s5_2 hbb2_2 hbb5_2
 refine tail_nil ?_
 refine wp_seq ?_
 refine wp_seq ?_
 refine region_lex [] [(10, Pr.ex (i64 ((h : Nat) : Int))), (11, Pr.ex (i64 ((pw h : Nat) : Int))), (12, Pr.ex (i64 ((0 : Nat) : Int)))] 3 hN_3 hD_3 (by kernel_rfl) (by kernel_rfl) ?_ ?_
 refine Asks.cons ?_ (Asks.cons ?_ (Asks.cons ?_ (Asks.zero _)))
 exact Ask.plain rfl rfl fun aq wq hNq hO hR hT => does_move (V := i64 ((h : Nat) : Int)) ((hO 1 rfl).trans s1_3) ⟨Ext.refl _, rfl⟩
 exact Ask.plain rfl rfl fun aq wq hNq hO hR hT => does_shl (k := .i64) (k' := .i64) (a := 1) (b := ((h : Nat) : Int)) (r := ((pw h : Nat) : Int)) rfl (hT 10 rfl rfl) (by omega) (by simp only [IntKind.bits]; omega) (shl_one hh) ⟨Ext.refl _, rfl⟩
 exact Ask.plain rfl rfl fun aq wq hNq hO hR hT => does_move (V := i64 ((0 : Nat) : Int)) rfl ⟨Ext.refl _, rfl⟩
 intro a4 wd4 hN_4 hD_4 hO hR hA hU
 obtain ⟨_, t11, t12, _⟩ := hA
 have hE_4 := hE_3.trans hR
 have s5_4 := (hO 5 rfl).trans s5_3
 have s6_4 := (hO 6 rfl).trans s6_3
 have hbb2_4 := hbb2_3.ext' hR
 have hbb5_4 := hbb5_3.ext' hR
 have s11_4 : get a4 11 = i64 ((pw h : Nat) : Int) := t11
 have s12_4 : get a4 12 = i64 ((0 : Nat) : Int) := t12
 clear hE_3 hN_3 hD_3 s1_3 s5_3 s6_3 hbb2_3 hbb5_3
 refine tail_nil ?_
 refine wp_block ?_
 refine loop_g (fun mz az wz => ∃ k : Nat, ∃ u : UInt32, ∃ xo : Value, mz = pw h - k ∧ (az.tmps.size = 24) ∧ (az.defers = []) ∧ (get az 5 = Value.func (.func 55) #[] #[Value.pointer (some ⟨b5, 0, none⟩)]) ∧ (get az 6 = xo) ∧ (get az 11 = i64 ((pw h : Nat) : Int)) ∧ (get az 12 = i64 ((k : Nat) : Int)) ∧ (Ext w0 wz) ∧ (Has wz b2 24 [w32 (seed).a, w32 (seed).b, w32 (seed).c, w32 (seed).d]) ∧ (Has wz b5 79 [w32 (seed.a), w32 (seed.b), w32 (seed.c), w32 (seed.d), w32 (u)]) ∧ (OwnT DG w0.heap.size 24 ((List.range k).map (pubAt seed)) xo wz) ∧ (xo.ownBlock ≠ some b2) ∧ (xo.ownBlock ≠ some b5) ∧ (k ≤ pw h)) ?_ ?_
 exact ⟨_, 0, 0, (Value.slice none 0 0), rfl, hN_4, hD_4, s5_4, s6_4, s11_4, s12_4, hE_4, hbb2_4, hbb5_4, (OwnT.nil DG w0.heap.size 24 _), (by intro e; cases e), (by intro e; cases e), Nat.zero_le _⟩
 rintro mz a5 wd5 ⟨k, u, xo, rfl, hN_5, hD_5, s5_5, s6_5, s11_5, s12_5, hE_5, hbb2_5, hbb5_5, hoxo_5, nbo_xo_b2, nbo_xo_b5, hk⟩
 have hsxo_5 := hoxo_5.sl.wide (Nat.zero_le _) (.inl rfl)
 refine wp_seq ?_
 refine region_lex [] [(13, Pr.ex (Value.bool (decide (((k : Nat) : Int) < ((pw h : Nat) : Int)))))] 1 hN_5 hD_5 (by kernel_rfl) (by kernel_rfl) ?_ ?_
 refine Asks.cons ?_ (Asks.zero _)
 exact Ask.plain rfl rfl fun aq wq hNq hO hR hT => does_lss (a := ((k : Nat) : Int)) (b := ((pw h : Nat) : Int)) ((hO 12 rfl).trans s12_5) ((hO 11 rfl).trans s11_5) ⟨Ext.refl _, rfl⟩
 intro a6 wd6 hN_6 hD_6 hO hR hA hU
 obtain ⟨t13, _⟩ := hA
 have hE_6 := hE_5.trans hR
 have s5_6 := (hO 5 rfl).trans s5_5
 have s6_6 := (hO 6 rfl).trans s6_5
 have s11_6 := (hO 11 rfl).trans s11_5
 have s12_6 := (hO 12 rfl).trans s12_5
 have hbb2_6 := hbb2_5.ext' hR
 have hbb5_6 := hbb5_5.ext' hR
 have hsxo_6 := hsxo_5.ext' hR
 have hoxo_6 := hoxo_5.ext' hR
 have s13_6 : get a6 13 = Value.bool (decide (((k : Nat) : Int) < ((pw h : Nat) : Int))) := t13
 clear hE_5 hN_5 hD_5 s5_5 s6_5 s11_5 s12_5 hbb2_5 hbb5_5 hsxo_5 hoxo_5
 refine tail_nil ?_
 refine wp_seq ?_
 refine wp_if (B := decide (((k : Nat) : Int) < ((pw h : Nat) : Int))) s13_6 (fun hc0 => ?_) (fun hc0 => ?_)
 have hc0 := of_decide_eq_true hc0
 refine wp_skip ?_
 refine wp_seq ?_
 refine wp_block ?_
 refine wp_seq ?_
 refine region_lex [] [(14, Pr.ex (i64 ((k : Nat) : Int))), (7, Pr.ex (i64 ((k : Nat) : Int)))] 2 hN_6 hD_6 (by kernel_rfl) (by kernel_rfl) ?_ ?_
 refine Asks.cons ?_ (Asks.cons ?_ (Asks.zero _))
 exact Ask.plain rfl rfl fun aq wq hNq hO hR hT => does_move (V := i64 ((k : Nat) : Int)) ((hO 12 rfl).trans s12_6) ⟨Ext.refl _, rfl⟩
 exact Ask.plain rfl rfl fun aq wq hNq hO hR hT => does_assign (V := i64 ((k : Nat) : Int)) (hT 14 rfl rfl) ⟨Ext.refl _, rfl⟩
 intro a7 wd7 hN_7 hD_7 hO hR hA hU
 obtain ⟨_, t7, _⟩ := hA
 have hE_7 := hE_6.trans hR
 have s5_7 := (hO 5 rfl).trans s5_6
 have s6_7 := (hO 6 rfl).trans s6_6
 have s11_7 := (hO 11 rfl).trans s11_6
 have s12_7 := (hO 12 rfl).trans s12_6
 have hbb2_7 := hbb2_6.ext' hR
 have hbb5_7 := hbb5_6.ext' hR
 have hsxo_7 := hsxo_6.ext' hR
 have hoxo_7 := hoxo_6.ext' hR
 have s7_7 : get a7 7 = i64 ((k : Nat) : Int) := t7
 clear hE_6 hN_6 hD_6 s5_6 s6_6 s11_6 s12_6 s13_6 hbb2_6 hbb5_6 hsxo_6 hoxo_6
 refine tail_nil ?_
 refine region_lex [] [(15, Pr.ex (xo)), (16, Pr.ex (Value.func (.func 55) #[] #[Value.pointer (some ⟨b5, 0, none⟩)])), (17, Pr.ex (i64 ((k : Nat) : Int)))] 3 hN_7 hD_7 (by kernel_rfl) (by kernel_rfl) ?_ ?_
 refine Asks.cons ?_ (Asks.cons ?_ (Asks.cons ?_ (Asks.zero _)))
 exact Ask.plain rfl rfl fun aq wq hNq hO hR hT => does_move (V := xo) ((hO 6 rfl).trans s6_7) ⟨Ext.refl _, rfl⟩
 exact Ask.plain rfl rfl fun aq wq hNq hO hR hT => does_move (V := Value.func (.func 55) #[] #[Value.pointer (some ⟨b5, 0, none⟩)]) ((hO 5 rfl).trans s5_7) ⟨Ext.refl _, rfl⟩
 exact Ask.plain rfl rfl fun aq wq hNq hO hR hT => does_move (V := i64 ((k : Nat) : Int)) ((hO 7 rfl).trans s7_7) ⟨Ext.refl _, rfl⟩
 intro a8 wd8 hN_8 hD_8 hO hR hA hU
 obtain ⟨t15, t16, t17, _⟩ := hA
 have hE_8 := hE_7.trans hR
 have s5_8 := (hO 5 rfl).trans s5_7
 have s6_8 := (hO 6 rfl).trans s6_7
 have s11_8 := (hO 11 rfl).trans s11_7
 have s12_8 := (hO 12 rfl).trans s12_7
 have hbb2_8 := hbb2_7.ext' hR
 have hbb5_8 := hbb5_7.ext' hR
 have hsxo_8 := hsxo_7.ext' hR
 have hoxo_8 := hoxo_7.ext' hR
 have s15_8 : get a8 15 = xo := t15
 have s16_8 : get a8 16 = Value.func (.func 55) #[] #[Value.pointer (some ⟨b5, 0, none⟩)] := t16
 have s17_8 : get a8 17 = i64 ((k : Nat) : Int) := t17
 clear hE_7 hN_7 hD_7 s5_7 s6_7 s7_7 s11_7 s12_7 hbb2_7 hbb5_7 hsxo_7 hoxo_7
 refine tail_put rfl rfl hN_8 hD_8 (by decide) (does_retv (vs := #[i64 ((k : Nat) : Int)]) (cap := #[Value.pointer (some ⟨b5, 0, none⟩)]) call_55 (args1 s17_8) s16_8 ((seed1 seed (u) k b5 wd8 (hL.ext hE_8) (fun e => Nat.ne_of_lt (Nat.lt_of_le_of_lt (Nat.zero_le _) (Nat.lt_of_lt_of_le hw0 fr_b5)) e) hbb5_8).mono fun v wd9 h => fun a9 hN_9 hD_9 hv hO => ?_))
 obtain ⟨hp, hX, hS⟩ := h
 have hE_9 := hE_8.since hX (fun k e => e ▸ fr_b5)
 have hbb2_9 := hbb2_8.ext hX ne_b2_b5
 have hsxo_9 := SlT.over hsxo_8 hX (fun _ => nbo_xo_b5)
 have hoxo_9 := OwnT.ext hoxo_8 hX (fun k hk e => nbo_xo_b5 (e ▸ hk))
 have hbb5_9 : Has wd9 b5 79 [w32 seed.a, w32 seed.b, w32 seed.c, w32 seed.d, w32 (UInt32.ofNat k)] := hS
 have s18_9 := hv.trans hp
 have s5_9 := (hO 5 rfl).trans s5_8
 have s6_9 := (hO 6 rfl).trans s6_8
 have s11_9 := (hO 11 rfl).trans s11_8
 have s12_9 := (hO 12 rfl).trans s12_8
 have s15_9 := (hO 15 rfl).trans s15_8
 clear hO hv hp hX hN_8 hD_8 hE_8 hbb2_8 hbb5_8 hsxo_8 hoxo_8 s5_8 s6_8 s11_8 s12_8 s15_8 s16_8 s17_8
 refine tail_put rfl rfl hN_9 hD_9 (by decide) (does_ret (vs := #[Dg.val (seedAt seed k)]) call_16 (args1 s18_9) rfl ((public_ (seedAt seed k) wd9 (hL.ext hE_9)).mono fun v wd10 h => fun a10 hN_10 hD_10 hv hO => ?_))
 have he := h.2
 have hR := he
 have hp : (Pr.ex (Dg.val (Sd.lone (seedAt seed k)))).p v wd10 := h.1
 clear h
 have hE_10 := hE_9.trans he
 have hbb2_10 := hbb2_9.ext' he
 have hbb5_10 := hbb5_9.ext' he
 have hsxo_10 := hsxo_9.ext' he
 have hoxo_10 := hoxo_9.ext' he
 replace hp : v = Dg.val (Sd.lone (seedAt seed k)) := hp
 have s19_10 := hv.trans hp
 have s5_10 := (hO 5 rfl).trans s5_9
 have s6_10 := (hO 6 rfl).trans s6_9
 have s11_10 := (hO 11 rfl).trans s11_9
 have s12_10 := (hO 12 rfl).trans s12_9
 have s15_10 := (hO 15 rfl).trans s15_9
 clear hO hv hN_9 hD_9 hE_9 hbb2_9 hbb5_9 hsxo_9 hoxo_9 s5_9 s6_9 s11_9 s12_9 s15_9 s18_9
 refine tail_put rfl rfl hN_10 hD_10 (by decide) (does_slice1 (T := DG) (X := Sd.lone (seedAt seed k)) (V := Dg.val (Sd.lone (seedAt seed k))) app_34 rfl (by decide) s19_10 rfl (fun v wd11 he _ hp => fun a11 hN_11 hD_11 hv hO => ?_))
 have hR := he
 have hE_11 := hE_10.trans he
 have hbb2_11 := hbb2_10.ext' he
 have hbb5_11 := hbb5_10.ext' he
 have hsxo_11 := hsxo_10.ext' he
 have hoxo_11 := hoxo_10.ext' he
 obtain ⟨x20, hxe⟩ : ∃ x, v = x := ⟨_, rfl⟩
 have s20_11 := hv.trans hxe
 replace hp : OwnT DG wd10.heap.size 24 ([Sd.lone (seedAt seed k)]) x20 wd11 := hxe ▸ hp
 have nbo_x20_b2 : x20.ownBlock ≠ some b2 := fun e => Nat.lt_irrefl _ (Nat.lt_of_lt_of_le hbb2_10.lt (OwnT.block_lt hp e).1)
 have nbo_x20_b5 : x20.ownBlock ≠ some b5 := fun e => Nat.lt_irrefl _ (Nat.lt_of_lt_of_le hbb5_10.lt (OwnT.block_lt hp e).1)
 have no_x20_xo : ∀ k, x20.ownBlock = some k → xo.ownBlock ≠ some k := fun k e e' => Nat.lt_irrefl _ (Nat.lt_of_lt_of_le (OwnT.block_lt hoxo_10 e').2 (OwnT.block_lt hp e).1)
 have hsx20_11 := hp.sl.wide (Nat.zero_le _) (.inl rfl)
 have hox20_11 := OwnT.base hp hE_10.size'
 clear hxe
 have s5_11 := (hO 5 rfl).trans s5_10
 have s6_11 := (hO 6 rfl).trans s6_10
 have s11_11 := (hO 11 rfl).trans s11_10
 have s12_11 := (hO 12 rfl).trans s12_10
 have s15_11 := (hO 15 rfl).trans s15_10
 clear hO hv hN_10 hD_10 hE_10 hbb2_10 hbb5_10 hsxo_10 hoxo_10 s5_10 s6_10 s11_10 s12_10 s15_10 s19_10
 refine tail_put rfl rfl hN_11 hD_11 (by decide) (does_append (T := DG) (base := w0.heap.size) (xs := (List.range k).map (pubAt seed)) (ys := [Sd.lone (seedAt seed k)]) (v := xo) app_34 s15_11 hoxo_11 (SlT.at s20_11 hsx20_11) (by simp) (by simp only [List.length_map, List.length_range, List.length_cons, List.length_nil]; omega) (by simp only [List.length_map, List.length_range, List.length_cons, List.length_nil]; omega) hE_11.size' (fun x21 wd12 hX hox21_12 hk a12 hN_12 hD_12 hv hO => ?_))
 have hE_12 := hE_11.since hX (fun b hb => Nat.le_trans (Nat.le_refl _) (OwnT.block_lt hoxo_11 hb).1)
 have hbb2_12 := hbb2_11.ext hX nbo_xo_b2
 have nbo_x21_b2 : x21.ownBlock ≠ some b2 := fun e => (hk _ e).elim nbo_xo_b2 (fun h => Nat.lt_irrefl _ (Nat.lt_of_lt_of_le hbb2_11.lt h))
 have hbb5_12 := hbb5_11.ext hX nbo_xo_b5
 have nbo_x21_b5 : x21.ownBlock ≠ some b5 := fun e => (hk _ e).elim nbo_xo_b5 (fun h => Nat.lt_irrefl _ (Nat.lt_of_lt_of_le hbb5_11.lt h))
 have hox20_12 := OwnT.ext hox20_11 hX (fun k hk e => no_x20_xo k hk e)
 have no_x21_x20 : ∀ k, x21.ownBlock = some k → x20.ownBlock ≠ some k := fun k e e' => (hk k e).elim (fun h => no_x20_xo k e' h) (fun h => Nat.lt_irrefl _ (Nat.lt_of_lt_of_le (OwnT.block_lt hox20_11 e').2 h))
 have hsx20_12 := hox20_12.sl.wide (Nat.zero_le _) (.inl rfl)
 have hsx21_12 := hox21_12.sl.wide (Nat.zero_le _) (.inl rfl)
 rw [(show (List.range k).map (pubAt seed) ++ [Sd.lone (seedAt seed k)] = (List.range (k + 1)).map (pubAt seed) from range_step rfl)] at hox21_12 hsx21_12
 have s21_12 := hv
 have s5_12 := (hO 5 rfl).trans s5_11
 have s6_12 := (hO 6 rfl).trans s6_11
 have s11_12 := (hO 11 rfl).trans s11_11
 have s12_12 := (hO 12 rfl).trans s12_11
 clear hO hv hX hk hN_11 hD_11 hE_11 hbb2_11 hbb5_11 hox20_11 s5_11 s6_11 s11_11 s12_11 s15_11 s20_11
 refine tail_put rfl rfl hN_12 hD_12 (by decide) (does_assign (V := x21) s21_12 (fun a13 hN_13 hD_13 hv hO => ?_))
 have s6_13 := hv
 have s5_13 := (hO 5 rfl).trans s5_12
 have s11_13 := (hO 11 rfl).trans s11_12
 have s12_13 := (hO 12 rfl).trans s12_12
 clear hO hv hN_12 hD_12 s5_12 s11_12 s12_12 s21_12 s6_12
 refine tail_nil ?_
 refine region_lex [] [(22, Pr.ex (i64 ((k + 1 : Nat) : Int)))] 1 hN_13 hD_13 (by kernel_rfl) (by kernel_rfl) ?_ ?_
 refine Asks.cons ?_ (Asks.zero _)
 exact Ask.plain rfl rfl fun aq wq hNq hO hR hT => does_add (a := ((k : Nat) : Int)) (b := ((1 : Nat) : Int)) (r := ((k + 1 : Nat) : Int)) ((hO 12 rfl).trans s12_13) rfl (by omega) (by omega) (by omega) ⟨Ext.refl _, rfl⟩
 intro a14 wd14 hN_14 hD_14 hO hR hA hU
 obtain ⟨t22, _⟩ := hA
 have hE_14 := hE_12.trans hR
 have s5_14 := (hO 5 rfl).trans s5_13
 have s6_14 := (hO 6 rfl).trans s6_13
 have s11_14 := (hO 11 rfl).trans s11_13
 have s12_14 := (hO 12 rfl).trans s12_13
 have hbb2_14 := hbb2_12.ext' hR
 have hbb5_14 := hbb5_12.ext' hR
 have hsx20_14 := hsx20_12.ext' hR
 have hsx21_14 := hsx21_12.ext' hR
 have hox20_14 := hox20_12.ext' hR
 have hox21_14 := hox21_12.ext' hR
 have s22_14 : get a14 22 = i64 ((k + 1 : Nat) : Int) := t22
 clear hE_12 hN_13 hD_13 s5_13 s6_13 s11_13 s12_13 hbb2_12 hbb5_12 hsx20_12 hsx21_12 hox20_12 hox21_12
 refine tail_put rfl rfl hN_14 hD_14 (by decide) (does_move (V := i64 ((k + 1 : Nat) : Int)) s22_14 (fun a15 hN_15 hD_15 hv hO => ?_))
 have s12_15 := hv
 have s5_15 := (hO 5 rfl).trans s5_14
 have s6_15 := (hO 6 rfl).trans s6_14
 have s11_15 := (hO 11 rfl).trans s11_14
 clear hO hv hN_14 hD_14 s5_14 s6_14 s11_14 s22_14 s12_14
 refine tail_nil ?_
 exact ⟨_, by omega, k + 1, (UInt32.ofNat k), x21, rfl, hN_15, hD_15, s5_15, s6_15, s11_15, s12_15, hE_14, hbb2_14, hbb5_14, hox21_14, nbo_x21_b2, nbo_x21_b5, by omega⟩
 have hc0 := of_decide_eq_false hc0
 refine wp_exit ?_
 refine wp_seq ?_
 refine region_lex [] [(23, Pr.ex (xo)), (4, Pr.ex (xo))] 2 hN_6 hD_6 (by kernel_rfl) (by kernel_rfl) ?_ ?_
 refine Asks.cons ?_ (Asks.cons ?_ (Asks.zero _))
 exact Ask.plain rfl rfl fun aq wq hNq hO hR hT => does_move (V := xo) ((hO 6 rfl).trans s6_6) ⟨Ext.refl _, rfl⟩
 exact Ask.plain rfl rfl fun aq wq hNq hO hR hT => does_assign (V := xo) (hT 23 rfl rfl) ⟨Ext.refl _, rfl⟩
 intro a16 wd16 hN_16 hD_16 hO hR hA hU
 obtain ⟨_, t4, _⟩ := hA
 have hE_16 := hE_6.trans hR
 have hbb2_16 := hbb2_6.ext' hR
 have hbb5_16 := hbb5_6.ext' hR
 have hsxo_16 := hsxo_6.ext' hR
 have hoxo_16 := hoxo_6.ext' hR
 have s4_16 : get a16 4 = xo := t4
 clear hE_6 hN_6 hD_6 s5_6 s6_6 s11_6 s12_6 s13_6 hbb2_6 hbb5_6 hsxo_6 hoxo_6
 refine tail_nil ?_
 refine wp_ret ?_
 refine res_one (V := xo) rfl hD_16 s4_16 ?_
 have hkp : k = pw h := by omega
 have ho := hoxo_16
 rw [hkp, ← publics_eq] at ho
 exact ⟨ho, hE_16⟩

end Go.Proofs.YtaeohnkfmachfabDoor
