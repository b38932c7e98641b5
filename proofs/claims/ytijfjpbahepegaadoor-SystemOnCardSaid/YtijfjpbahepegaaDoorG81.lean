/- The walks of functions of the program: printed. -/
import Derived.Test.YtijfjpbahepegaaDoorKB
import Derived.Test.YtijfjpbahepegaaDoorG31
import Derived.Test.YtijfjpbahepegaaDoorF0
set_option maxRecDepth 100000
namespace Go.Proofs.YtijfjpbahepegaaDoor
open Go Go.RowKit Sk Sd
theorem filled_ (items : List (List UInt8)) (x1 : Value) (w0 : World) (hL : Laid w0) (hx1 : SlT Str 0 0 items x1 w0) (hs : ∀ x ∈ items, x.length ≤ 65536) (hn : items.length ≤ 50000) :
    Gives Tryd.prog 35 #[x1] w0 (Pr.t2 (Pr.ag (fun x => Value.agg #[x]) (Pr.sl' Str 0 0 (fill [] items).1)) (Pr.ex (Value.bool (fill [] items).2))) := by
 refine enter (N := 30) Tryd.func35 rfl rfl ?_
 intro a0 hN_0 hD_0 hA
 have s0_0 : get a0 0 = x1 := hA 0 _ rfl
 clear hA
 have hE_0 : Ext w0 w0 := Ext.refl w0
 have hsx1_0 := hx1.close
 refine wp_seq ?_
 refine region_lex [2] [(2, Pr.box' w0.heap.size 24 [Value.slice none 0 0]), (3, Pr.ex (Value.bool (false)))] 2 hN_0 hD_0 (by kernel_rfl) (by kernel_rfl) ?_ ?_
 refine Asks.cons ?_ (Asks.cons ?_ (Asks.zero _))
 refine Ask.fresh rfl rfl ?_
 intro aq wq hNq hO hR hT
 exact does_alloc zero_24 (fun b w2 he hlo hb => ⟨he, ⟨b, rfl, Nat.le_trans hR.size' hlo, hb⟩, ⟨b, rfl, hlo, hb.lt⟩⟩)
 exact Ask.plain rfl rfl fun aq wq hNq hO hR hT => does_assign (V := Value.bool (false)) rfl ⟨Ext.refl _, rfl⟩
 intro a1 wd1 hN_1 hD_1 hO hR hA hU
 obtain ⟨t2, _, _⟩ := hA
 have hE_1 := hE_0.trans hR
 have s0_1 := (hO 0 rfl).trans s0_0
 have hsx1_1 := hsx1_0.ext' hR
 obtain ⟨b2, s2_1, lo_b2, hbb2_1⟩ := t2
 have nb_x1_b2 := SlT.old hsx1_0 lo_b2
 have fr_b2 : w0.heap.size ≤ b2 := Nat.le_trans hE_0.size' lo_b2
 clear hE_0 hN_0 hD_0 s0_0 hsx1_0
 refine tail_nil ?_
 refine wp_seq ?_
 refine region_lex [4] [(4, Pr.box' wd1.heap.size 24 [Value.slice none 0 0])] 1 hN_1 hD_1 (by kernel_rfl) (by kernel_rfl) ?_ ?_
 refine Asks.cons ?_ (Asks.zero _)
 refine Ask.fresh rfl rfl ?_
 intro aq wq hNq hO hR hT
 exact does_alloc zero_24 (fun b w2 he hlo hb => ⟨he, ⟨b, rfl, Nat.le_trans hR.size' hlo, hb⟩, ⟨b, rfl, hlo, hb.lt⟩⟩)
 intro a2 wd2 hN_2 hD_2 hO hR hA hU
 obtain ⟨t4, _⟩ := hA
 have hE_2 := hE_1.trans hR
 have s0_2 := (hO 0 rfl).trans s0_1
 have s2_2 := (hO 2 rfl).trans s2_1
 have hbb2_2 := hbb2_1.ext' hR
 have hsx1_2 := hsx1_1.ext' hR
 obtain ⟨b4, s4_2, lo_b4, hbb4_2⟩ := t4
 have ne_b2_b4 : b2 ≠ b4 := fun e => Nat.lt_irrefl _ (Nat.lt_of_lt_of_le hbb2_1.lt (e ▸ lo_b4))
 have nb_x1_b4 := SlT.old hsx1_1 lo_b4
 have fr_b4 : w0.heap.size ≤ b4 := Nat.le_trans hE_1.size' lo_b4
 clear hE_1 hN_1 hD_1 s0_1 s2_1 hbb2_1 hsx1_1
 refine tail_nil ?_
 refine wp_seq ?_
 refine wp_seq ?_
 refine region_lex [] [(5, Pr.ex (i64 ((0 : Nat) : Int)))] 1 hN_2 hD_2 (by kernel_rfl) (by kernel_rfl) ?_ ?_
 refine Asks.cons ?_ (Asks.zero _)
 exact Ask.plain rfl rfl fun aq wq hNq hO hR hT => does_assign (V := i64 ((0 : Nat) : Int)) rfl ⟨Ext.refl _, rfl⟩
 intro a3 wd3 hN_3 hD_3 hO hR hA hU
 obtain ⟨t5, _⟩ := hA
 have hE_3 := hE_2.trans hR
 have s0_3 := (hO 0 rfl).trans s0_2
 have s2_3 := (hO 2 rfl).trans s2_2
 have s4_3 := (hO 4 rfl).trans s4_2
 have hbb2_3 := hbb2_2.ext' hR
 have hbb4_3 := hbb4_2.ext' hR
 have hsx1_3 := hsx1_2.ext' hR
 have s5_3 : get a3 5 = i64 ((0 : Nat) : Int) := t5
 clear hE_2 hN_2 hD_2 s0_2 s2_2 s4_2 hbb2_2 hbb4_2 hsx1_2
 refine tail_nil ?_
 refine wp_block ?_
 refine loop_g (fun mz az wz => ∃ k : Nat, ∃ s : List (List UInt8), ∃ xs : Value, mz = items.length - k ∧ (az.tmps.size = 30) ∧ (az.defers = []) ∧ (get az 0 = x1) ∧ (get az 2 = Value.pointer (some ⟨b2, 0, none⟩)) ∧ (get az 4 = Value.pointer (some ⟨b4, 0, none⟩)) ∧ (get az 5 = i64 ((k : Nat) : Int)) ∧ (Ext w0 wz) ∧ (Has wz b2 24 [Value.slice none 0 0]) ∧ (Has wz b4 24 [xs]) ∧ (SlT Str 0 (w0.heap.size + 1) (items) x1 wz) ∧ (OwnT Str w0.heap.size 9 (s) xs wz) ∧ (xs.ownBlock ≠ some b2) ∧ (xs.ownBlock ≠ some b4) ∧ (k ≤ items.length) ∧ (fill [] items = fill s (items.drop k)) ∧ (s.length ≤ k) ∧ (∀ y ∈ s, y.length ≤ 65536)) ?_ ?_
 exact ⟨_, 0, [], (Value.slice none 0 0), rfl, hN_3, hD_3, s0_3, s2_3, s4_3, s5_3, hE_3, hbb2_3, hbb4_3, hsx1_3, (OwnT.nil Str w0.heap.size 9 _), (by intro e; cases e), (by intro e; cases e), Nat.zero_le _, rfl, Nat.zero_le _, (by intro y hy; cases hy)⟩
 rintro mz a4 wd4 ⟨k, s, xs, rfl, hN_4, hD_4, s0_4, s2_4, s4_4, s5_4, hE_4, hbb2_4, hbb4_4, hsx1_4, hoxs_4, nbo_xs_b2, nbo_xs_b4, hk, hf, hsl, hss⟩
 have hsxs_4 := hoxs_4.sl.wide (Nat.zero_le _) (.inl rfl)
 refine wp_seq ?_
 refine wp_seq ?_
 refine region_lex [] [(9, Pr.ex (i64 ((k : Nat) : Int))), (10, Pr.ex (x1)), (11, Pr.ex (i64 ((items.length : Nat) : Int))), (12, Pr.ex (Value.bool (decide (((k : Nat) : Int) < ((items.length : Nat) : Int)))))] 4 hN_4 hD_4 (by kernel_rfl) (by kernel_rfl) ?_ ?_
 refine Asks.cons ?_ (Asks.cons ?_ (Asks.cons ?_ (Asks.cons ?_ (Asks.zero _))))
 exact Ask.plain rfl rfl fun aq wq hNq hO hR hT => does_move (V := i64 ((k : Nat) : Int)) ((hO 5 rfl).trans s5_4) ⟨Ext.refl _, rfl⟩
 exact Ask.plain rfl rfl fun aq wq hNq hO hR hT => does_move (V := x1) ((hO 0 rfl).trans s0_4) ⟨Ext.refl _, rfl⟩
 exact Ask.plain rfl rfl fun aq wq hNq hO hR hT => does_len (T := Str) (xs := items) sli_22 (SlT.at (hT 10 rfl rfl) (hsx1_4.ext' hR)) ⟨Ext.refl _, rfl⟩
 exact Ask.plain rfl rfl fun aq wq hNq hO hR hT => does_lss (a := ((k : Nat) : Int)) (b := ((items.length : Nat) : Int)) (hT 9 rfl rfl) (hT 11 rfl rfl) ⟨Ext.refl _, rfl⟩
 intro a5 wd5 hN_5 hD_5 hO hR hA hU
 obtain ⟨_, _, _, t12, _⟩ := hA
 have hE_5 := hE_4.trans hR
 have s0_5 := (hO 0 rfl).trans s0_4
 have s2_5 := (hO 2 rfl).trans s2_4
 have s4_5 := (hO 4 rfl).trans s4_4
 have s5_5 := (hO 5 rfl).trans s5_4
 have hbb2_5 := hbb2_4.ext' hR
 have hbb4_5 := hbb4_4.ext' hR
 have hsx1_5 := hsx1_4.ext' hR
 have hsxs_5 := hsxs_4.ext' hR
 have hoxs_5 := hoxs_4.ext' hR
 have s12_5 : get a5 12 = Value.bool (decide (((k : Nat) : Int) < ((items.length : Nat) : Int))) := t12
 clear hE_4 hN_4 hD_4 s0_4 s2_4 s4_4 s5_4 hbb2_4 hbb4_4 hsx1_4 hsxs_4 hoxs_4
 refine tail_nil ?_
 refine wp_if (B := decide (((k : Nat) : Int) < ((items.length : Nat) : Int))) s12_5 (fun hc0 => ?_) (fun hc0 => ?_)
 have hc0 := of_decide_eq_true hc0
 obtain ⟨x, hx⟩ := get_of_lt (l := items) (k := k) (by omega)
 have hsn : s.length ≤ 100000 := by omega
 refine wp_skip ?_
 refine wp_seq ?_
 refine wp_block ?_
 refine wp_seq ?_
 refine region_late [6] [(16, Pr.ex (Value.agg #[xs])), (17, Pr.ex (x1)), (18, Pr.ex (i64 ((k : Nat) : Int))), (19, Pr.pt' 0 (w0.heap.size + 1) [str (x)]), (20, Pr.ex (str (x))), (21, Pr.t3 (Pr.ag (fun x => Value.agg #[x]) (Pr.own' Str w0.heap.size 9 ((addS s x).1))) (Pr.ex (i64 ((addS s x).2.1))) (Pr.ex (i64 (((addS s x).2.2 : Nat) : Int)))), (15, Pr.t3 (Pr.ag (fun x => Value.agg #[x]) (Pr.own' Str w0.heap.size 9 ((addS s x).1))) (Pr.ex (i64 ((addS s x).2.1))) (Pr.ex (i64 (((addS s x).2.2 : Nat) : Int)))), (22, Pr.ag (fun x => Value.agg #[x]) (Pr.own' Str w0.heap.size 9 ((addS s x).1))), (23, Pr.ex (i64 ((addS s x).2.1))), (24, Pr.ex (i64 (((addS s x).2.2 : Nat) : Int))), (6, Pr.box' wd5.heap.size 24 [Value.slice none 0 0])] 11 [8, 9] (fun k => wd5.heap.size ≤ k) mixed hN_5 hD_5 (by kernel_rfl) (by kernel_rfl) (by kernel_rfl) (by kernel_rfl) (fun d v c a w h => by cases d <;> exact h) ?_ ?_ ?_
 refine Asks.cons ?_ (Asks.cons ?_ (Asks.cons ?_ (Asks.cons ?_ (Asks.cons ?_ (Asks.cons ?_ (Asks.cons ?_ (Asks.cons ?_ (Asks.cons ?_ (Asks.cons ?_ (Asks.cons ?_ (Asks.zero _)))))))))))
 exact Ask.plainD rfl rfl fun aq wq hNq hO hR hT => does_loadD (o := 0) (n := 1) (mid := [xs]) ((hO 4 rfl).trans s4_5) (hbb4_5.ext' hR) rfl rfl (Nat.le_of_ble_eq_true rfl) row_24 rfl ⟨Ext.refl _, rfl⟩
 exact Ask.plainD rfl rfl fun aq wq hNq hO hR hT => does_move (V := x1) ((hO 0 rfl).trans s0_5) ⟨Ext.refl _, rfl⟩
 exact Ask.plainD rfl rfl fun aq wq hNq hO hR hT => does_move (V := i64 ((k : Nat) : Int)) ((hO 5 rfl).trans s5_5) ⟨Ext.refl _, rfl⟩
 exact Ask.plainD rfl rfl fun aq wq hNq hO hR hT => does_indexSl (T := Str) (xs := items) (i := ((k : Nat) : Int)) (X := x) sli_22 rfl (SlT.at (hT 17 rfl rfl) (hsx1_5.ext' hR)) (hT 18 rfl rfl) (by omega) hx (fun v h => ⟨Ext.refl _, h⟩)
 exact Ask.plainD rfl rfl fun aq wq hNq hO hR hT => does_loadP1 (V := str (x)) (hT 19 rfl rfl) one_9 ⟨Ext.refl _, rfl⟩
 exact Ask.plainD rfl rfl fun aq wq hNq hO hR hT => does_ret (vs := #[Value.agg #[xs], str (x)]) call_19 (args2 (hT 16 rfl rfl) (hT 20 rfl rfl)) rfl ((addO s x (xs) wq w0.heap.size (hL.ext (hE_5.trans hR)) ((hsxs_5.ext' hR).wide (Nat.zero_le _) (.inl rfl)) hss hsn (hs x (mem_get hx)) (hoxs_5.ext' hR) (Nat.le_trans (Nat.le_refl _) (hE_5.trans hR).size')).mono fun v w2 h => ⟨h.2, by obtain ⟨x0, x1, x2, hv, k0, k1, k2⟩ := h.1; exact ⟨x0, x1, x2, hv, k0, k1, k2⟩⟩)
 exact Ask.plainD rfl rfl fun aq wq hNq hO hR hT => does_move rfl ⟨Ext.refl _, (hT 21 rfl rfl)⟩
 exact Ask.plainD rfl rfl fun aq wq hNq hO hR hT => by
  obtain ⟨x0, x1, x2, hv, k0, k1, k2⟩ := (hT 15 rfl rfl)
  exact does_extract hv rfl ⟨Ext.refl _, k0⟩
 exact Ask.plainD rfl rfl fun aq wq hNq hO hR hT => by
  obtain ⟨x0, x1, x2, hv, k0, k1, k2⟩ := (hT 15 rfl rfl)
  exact does_extract (V := i64 ((addS s x).2.1)) hv (by rw [show x1 = i64 ((addS s x).2.1) from k1]; rfl) ⟨Ext.refl _, rfl⟩
 exact Ask.plainD rfl rfl fun aq wq hNq hO hR hT => by
  obtain ⟨x0, x1, x2, hv, k0, k1, k2⟩ := (hT 15 rfl rfl)
  exact does_extract (V := i64 (((addS s x).2.2 : Nat) : Int)) hv (by rw [show x2 = i64 (((addS s x).2.2 : Nat) : Int) from k2]; rfl) ⟨Ext.refl _, rfl⟩
 refine Ask.fresh rfl rfl ?_
 intro aq wq hNq hO hR hT
 replace hR := (Ext.drew _).trans hR
 exact does_alloc zero_24 (fun b w2 he hlo hb => ⟨he, ⟨b, rfl, Nat.le_trans hR.size' hlo, hb⟩, ⟨b, rfl, hlo, hb.lt⟩⟩)
 refine LateAsks.cons rfl rfl rfl ?_ (LateAsks.cons rfl rfl rfl ?_ LateAsks.nil)
 intro aq wq hO hR hT
 have hR0 := hR
 replace hR := (Ext.drew _).trans hR
 obtain ⟨x0, x1, x2, hv, k0, k1, k2⟩ := (hT 15 rfl rfl)
 exact ⟨_, yl_extract (V := i64 ((addS s x).2.1)) hv (by rw [show x1 = i64 ((addS s x).2.1) from k1]; rfl), rfl⟩
 intro aq wq hO hR hT
 have hR0 := hR
 replace hR := (Ext.drew _).trans hR
 obtain ⟨x0, x1, x2, hv, k0, k1, k2⟩ := (hT 15 rfl rfl)
 exact ⟨_, yl_extract (V := i64 (((addS s x).2.2 : Nat) : Int)) hv (by rw [show x2 = i64 (((addS s x).2.2 : Nat) : Int) from k2]; rfl), rfl⟩
 intro wl hwl hwh a6 wd6 hN_6 hD_6 hO hR hA hU
 have hS_6 : ExtE (fun k => wd5.heap.size ≤ k) wl wd6 := hR.toE
 replace hR := hwl.trans hR
 obtain ⟨_, _, _, _, _, _, _, t22, t23, t24, t6, _⟩ := hA
 have hE_6 := hE_5.trans hR
 have s0_6 := (hO 0 rfl).trans s0_5
 have s2_6 := (hO 2 rfl).trans s2_5
 have s4_6 := (hO 4 rfl).trans s4_5
 have s5_6 := (hO 5 rfl).trans s5_5
 have hbb2_6 := hbb2_5.ext' hR
 have hbb4_6 := hbb4_5.ext' hR
 have hsx1_6 := hsx1_5.ext' hR
 have hsxs_6 := hsxs_5.ext' hR
 have hoxs_6 := hoxs_5.ext' hR
 obtain ⟨x22_0_6, s22_6, ky22_0_6⟩ := t22
 replace ky22_0_6 : OwnT Str w0.heap.size 9 ((addS s x).1) x22_0_6 wd6 := ky22_0_6
 have hsx22_0_6_6 := ky22_0_6.sl.wide (Nat.zero_le _) (.inl rfl)
 have s23_6 : get a6 23 = i64 ((addS s x).2.1) := t23
 have s24_6 : get a6 24 = i64 (((addS s x).2.2 : Nat) : Int) := t24
 obtain ⟨b6, s6_6, lo_b6, hbb6_6⟩ := t6
 have ne_b2_b6 : b2 ≠ b6 := fun e => Nat.lt_irrefl _ (Nat.lt_of_lt_of_le hbb2_5.lt (e ▸ lo_b6))
 have ne_b4_b6 : b4 ≠ b6 := fun e => Nat.lt_irrefl _ (Nat.lt_of_lt_of_le hbb4_5.lt (e ▸ lo_b6))
 have nb_x1_b6 := SlT.old hsx1_5 lo_b6
 have nb_xs_b6 := SlT.old hsxs_5 lo_b6
 have nbo_xs_b6 : xs.ownBlock ≠ some b6 := fun e => Nat.lt_irrefl _ (Nat.lt_of_lt_of_le (OwnT.block_lt hoxs_5 e).2 lo_b6)
 have fr_b6 : w0.heap.size ≤ b6 := Nat.le_trans hE_5.size' lo_b6
 have nbo_x22_0_6_b2 := OwnT.typed ky22_0_6 hbb2_6 (by decide)
 have nbo_x22_0_6_b4 := OwnT.typed ky22_0_6 hbb4_6 (by decide)
 have nbo_x22_0_6_b6 := OwnT.typed ky22_0_6 hbb6_6 (by decide)
 clear hE_5 hN_5 hD_5 s0_5 s2_5 s4_5 s5_5 s12_5 hbb2_5 hbb4_5 hsx1_5 hsxs_5 hoxs_5
 refine tailS_none rfl rfl (does_storeD (o := 0) (n := 1) (cs' := [x22_0_6]) (V := Value.agg #[x22_0_6]) s6_6 s22_6 hbb6_6 (Nat.le_of_ble_eq_true rfl) rfl siz_24 (one_cons (SlT.one hsx22_0_6_6) one_nil) rfl (fun wd7 hX hz hbb6_7 => ⟨hS_6.trans (hX.mono fun k _ e => (e ▸ (Nat.le_trans (Nat.le_refl _) lo_b6))), ?_⟩))
 have hS_7 := hS_6.trans (hX.mono (E' := (fun k => wd5.heap.size ≤ k)) fun k _ e => (e ▸ (Nat.le_trans (Nat.le_refl _) lo_b6)))
 have hE_7 := hE_6.since hX (fun k e => e ▸ fr_b6)
 have hbb2_7 := hbb2_6.ext hX ne_b2_b6
 have hbb4_7 := hbb4_6.ext hX ne_b4_b6
 have hsx1_7 := SlT.over hsx1_6 hX nb_x1_b6
 have hsxs_7 := SlT.over hsxs_6 hX nb_xs_b6
 have hsx22_0_6_7 := SlT.over hsx22_0_6_6 hX (fun _ => nbo_x22_0_6_b6)
 have hoxs_7 := OwnT.ext hoxs_6 hX (fun k hk e => nbo_xs_b6 (e ▸ hk))
 have hox22_0_6_7 := OwnT.ext ky22_0_6 hX (fun k hk e => nbo_x22_0_6_b6 (e ▸ hk))
 clear hX hz hE_6 hbb2_6 hbb4_6 hbb6_6 hsx1_6 hsxs_6 hsx22_0_6_6 hoxs_6 ky22_0_6
 refine tailS_put rfl rfl hN_6 hD_6 (by decide) (does_assign (V := i64 ((addS s x).2.1)) s23_6 (⟨hS_7, fun a8 hN_8 hD_8 hv hO => ?_⟩))
 have s7_8 := hv
 have s0_8 := (hO 0 rfl).trans s0_6
 have s2_8 := (hO 2 rfl).trans s2_6
 have s4_8 := (hO 4 rfl).trans s4_6
 have s5_8 := (hO 5 rfl).trans s5_6
 have s6_8 := (hO 6 rfl).trans s6_6
 have s24_8 := (hO 24 rfl).trans s24_6
 clear hO hv hN_6 hD_6 s0_6 s2_6 s4_6 s5_6 s6_6 s22_6 s23_6 s24_6
 refine tailS_put rfl rfl hN_8 hD_8 (by decide) (does_assign (V := i64 (((addS s x).2.2 : Nat) : Int)) s24_8 (⟨hS_7, fun a9 hN_9 hD_9 hv hO => ?_⟩))
 have s8_9 := hv
 have s0_9 := (hO 0 rfl).trans s0_8
 have s2_9 := (hO 2 rfl).trans s2_8
 have s4_9 := (hO 4 rfl).trans s4_8
 have s5_9 := (hO 5 rfl).trans s5_8
 have s6_9 := (hO 6 rfl).trans s6_8
 clear hO hv hN_8 hD_8 s0_8 s2_8 s4_8 s5_8 s6_8 s7_8 s24_8
 refine tailS_nil ?_
 refine wp_seq ?_
 refine wp_seq ?_
 refine region_lex [] [(25, Pr.ex (i64 (((addS s x).2.2 : Nat) : Int))), (26, Pr.ex (Value.bool (!decide ((((addS s x).2.2 : Nat) : Int) = ((0 : Nat) : Int)))))] 2 hN_9 hD_9 (by kernel_rfl) (by kernel_rfl) ?_ ?_
 refine Asks.cons ?_ (Asks.cons ?_ (Asks.zero _))
 exact Ask.plain rfl rfl fun aq wq hNq hO hR hT => does_move (V := i64 (((addS s x).2.2 : Nat) : Int)) ((hO 8 rfl).trans s8_9) ⟨Ext.refl _, rfl⟩
 exact Ask.plain rfl rfl fun aq wq hNq hO hR hT => does_neq (a := (((addS s x).2.2 : Nat) : Int)) (b := ((0 : Nat) : Int)) (hT 25 rfl rfl) rfl ⟨Ext.refl _, rfl⟩
 intro a10 wd10 hN_10 hD_10 hO hR hA hU
 obtain ⟨_, t26, _⟩ := hA
 have hE_10 := hE_7.trans hR
 have s0_10 := (hO 0 rfl).trans s0_9
 have s2_10 := (hO 2 rfl).trans s2_9
 have s4_10 := (hO 4 rfl).trans s4_9
 have s5_10 := (hO 5 rfl).trans s5_9
 have s6_10 := (hO 6 rfl).trans s6_9
 have hbb2_10 := hbb2_7.ext' hR
 have hbb4_10 := hbb4_7.ext' hR
 have hbb6_10 := hbb6_7.ext' hR
 have hsx1_10 := hsx1_7.ext' hR
 have hsxs_10 := hsxs_7.ext' hR
 have hsx22_0_6_10 := hsx22_0_6_7.ext' hR
 have hoxs_10 := hoxs_7.ext' hR
 have hox22_0_6_10 := hox22_0_6_7.ext' hR
 have s26_10 : get a10 26 = Value.bool (!decide ((((addS s x).2.2 : Nat) : Int) = ((0 : Nat) : Int))) := t26
 clear hE_7 hN_9 hD_9 s0_9 s2_9 s4_9 s5_9 s6_9 s8_9 hbb2_7 hbb4_7 hbb6_7 hsx1_7 hsxs_7 hsx22_0_6_7 hoxs_7 hox22_0_6_7
 refine tail_nil ?_
 refine wp_if (B := !decide ((((addS s x).2.2 : Nat) : Int) = ((0 : Nat) : Int))) s26_10 (fun hc1 => ?_) (fun hc1 => ?_)
 have hc1 := of_decide_eq_false (bn hc1)
 replace hc1 : ¬ (addS s x).2.2 = 0 := by omega
 refine wp_seq ?_
 refine region_lex [] [(27, Pr.ex (Value.agg #[xs]))] 1 hN_10 hD_10 (by kernel_rfl) (by kernel_rfl) ?_ ?_
 refine Asks.cons ?_ (Asks.zero _)
 exact Ask.plain rfl rfl fun aq wq hNq hO hR hT => does_loadD (o := 0) (n := 1) (mid := [xs]) ((hO 4 rfl).trans s4_10) (hbb4_10.ext' hR) rfl rfl (Nat.le_of_ble_eq_true rfl) row_24 rfl ⟨Ext.refl _, rfl⟩
 intro a11 wd11 hN_11 hD_11 hO hR hA hU
 obtain ⟨t27, _⟩ := hA
 have hE_11 := hE_10.trans hR
 have s2_11 := (hO 2 rfl).trans s2_10
 have hbb2_11 := hbb2_10.ext' hR
 have hbb4_11 := hbb4_10.ext' hR
 have hbb6_11 := hbb6_10.ext' hR
 have hsx1_11 := hsx1_10.ext' hR
 have hsxs_11 := hsxs_10.ext' hR
 have hsx22_0_6_11 := hsx22_0_6_10.ext' hR
 have hoxs_11 := hoxs_10.ext' hR
 have hox22_0_6_11 := hox22_0_6_10.ext' hR
 have s27_11 : get a11 27 = Value.agg #[xs] := t27
 clear hE_10 hN_10 hD_10 s0_10 s2_10 s4_10 s5_10 s6_10 s26_10 hbb2_10 hbb4_10 hbb6_10 hsx1_10 hsxs_10 hsx22_0_6_10 hoxs_10 hox22_0_6_10
 refine tail_none rfl rfl (does_storeD (o := 0) (n := 1) (cs' := [xs]) (V := Value.agg #[xs]) s2_11 s27_11 hbb2_11 (Nat.le_of_ble_eq_true rfl) rfl siz_24 (one_cons (SlT.one hsxs_11) one_nil) rfl (fun wd12 hX hz hbb2_12 => ?_))
 have hE_12 := hE_11.since hX (fun k e => e ▸ fr_b2)
 have hbb4_12 := hbb4_11.ext hX ne_b2_b4.symm
 have hbb6_12 := hbb6_11.ext hX ne_b2_b6.symm
 have hsx1_12 := SlT.over hsx1_11 hX nb_x1_b2
 have hsxs_12 := SlT.over hsxs_11 hX (fun _ => nbo_xs_b2)
 have hsx22_0_6_12 := SlT.over hsx22_0_6_11 hX (fun _ => nbo_x22_0_6_b2)
 have hoxs_12 := OwnT.ext hoxs_11 hX (fun k hk e => nbo_xs_b2 (e ▸ hk))
 have hox22_0_6_12 := OwnT.ext hox22_0_6_11 hX (fun k hk e => nbo_x22_0_6_b2 (e ▸ hk))
 clear hX hz hE_11 hbb2_11 hbb4_11 hbb6_11 hsx1_11 hsxs_11 hsx22_0_6_11 hoxs_11 hox22_0_6_11
 refine tail_put rfl rfl hN_11 hD_11 (by decide) (does_assign (V := Value.bool (false)) rfl (fun a13 hN_13 hD_13 hv hO => ?_))
 have s3_13 := hv
 have s2_13 := (hO 2 rfl).trans s2_11
 clear hO hv hN_11 hD_11 s2_11 s27_11
 refine tail_nil ?_
 refine wp_ret ?_
 refine res_two (V1 := Value.agg #[xs]) (V2 := Value.bool (false)) rfl hD_13 (ResIs.cell s2_13 hbb2_12 row_24 rfl rfl) s3_13 ?_
 obtain ⟨e1, e2⟩ := prod2is (hf.trans (fill_no hx hc1))
 rw [e1, e2]
 exact ⟨⟨_, _, rfl, ⟨_, rfl, hsxs_12.wide (Nat.zero_le _) (.inl rfl)⟩, rfl⟩, hE_12⟩
 have hc1 := of_decide_eq_true (bn' hc1)
 replace hc1 : (addS s x).2.2 = 0 := by omega
 refine wp_skip ?_
 refine region_lex [] [(28, Pr.ex (Value.agg #[x22_0_6]))] 1 hN_10 hD_10 (by kernel_rfl) (by kernel_rfl) ?_ ?_
 refine Asks.cons ?_ (Asks.zero _)
 exact Ask.plain rfl rfl fun aq wq hNq hO hR hT => does_loadD (o := 0) (n := 1) (mid := [x22_0_6]) ((hO 6 rfl).trans s6_10) (hbb6_10.ext' hR) rfl rfl (Nat.le_of_ble_eq_true rfl) row_24 rfl ⟨Ext.refl _, rfl⟩
 intro a14 wd14 hN_14 hD_14 hO hR hA hU
 obtain ⟨t28, _⟩ := hA
 have hE_14 := hE_10.trans hR
 have s0_14 := (hO 0 rfl).trans s0_10
 have s2_14 := (hO 2 rfl).trans s2_10
 have s4_14 := (hO 4 rfl).trans s4_10
 have s5_14 := (hO 5 rfl).trans s5_10
 have hbb2_14 := hbb2_10.ext' hR
 have hbb4_14 := hbb4_10.ext' hR
 have hbb6_14 := hbb6_10.ext' hR
 have hsx1_14 := hsx1_10.ext' hR
 have hsxs_14 := hsxs_10.ext' hR
 have hsx22_0_6_14 := hsx22_0_6_10.ext' hR
 have hoxs_14 := hoxs_10.ext' hR
 have hox22_0_6_14 := hox22_0_6_10.ext' hR
 have s28_14 : get a14 28 = Value.agg #[x22_0_6] := t28
 clear hE_10 hN_10 hD_10 s0_10 s2_10 s4_10 s5_10 s6_10 s26_10 hbb2_10 hbb4_10 hbb6_10 hsx1_10 hsxs_10 hsx22_0_6_10 hoxs_10 hox22_0_6_10
 refine tail_none rfl rfl (does_storeD (o := 0) (n := 1) (cs' := [x22_0_6]) (V := Value.agg #[x22_0_6]) s4_14 s28_14 hbb4_14 (Nat.le_of_ble_eq_true rfl) rfl siz_24 (one_cons (SlT.one hsx22_0_6_14) one_nil) rfl (fun wd15 hX hz hbb4_15 => ?_))
 have hE_15 := hE_14.since hX (fun k e => e ▸ fr_b4)
 have hbb2_15 := hbb2_14.ext hX ne_b2_b4
 have hbb6_15 := hbb6_14.ext hX ne_b4_b6.symm
 have hsx1_15 := SlT.over hsx1_14 hX nb_x1_b4
 have hsxs_15 := SlT.over hsxs_14 hX (fun _ => nbo_xs_b4)
 have hsx22_0_6_15 := SlT.over hsx22_0_6_14 hX (fun _ => nbo_x22_0_6_b4)
 have hoxs_15 := OwnT.ext hoxs_14 hX (fun k hk e => nbo_xs_b4 (e ▸ hk))
 have hox22_0_6_15 := OwnT.ext hox22_0_6_14 hX (fun k hk e => nbo_x22_0_6_b4 (e ▸ hk))
 clear hX hz hE_14 hbb2_14 hbb4_14 hbb6_14 hsx1_14 hsxs_14 hsx22_0_6_14 hoxs_14 hox22_0_6_14
 refine tail_nil ?_
 refine region_lex [] [(13, Pr.ex (i64 ((k : Nat) : Int))), (14, Pr.ex (i64 ((k + 1 : Nat) : Int)))] 2 hN_14 hD_14 (by kernel_rfl) (by kernel_rfl) ?_ ?_
 refine Asks.cons ?_ (Asks.cons ?_ (Asks.zero _))
 exact Ask.plain rfl rfl fun aq wq hNq hO hR hT => does_move (V := i64 ((k : Nat) : Int)) ((hO 5 rfl).trans s5_14) ⟨Ext.refl _, rfl⟩
 exact Ask.plain rfl rfl fun aq wq hNq hO hR hT => does_add (a := ((k : Nat) : Int)) (b := ((1 : Nat) : Int)) (r := ((k + 1 : Nat) : Int)) (hT 13 rfl rfl) rfl (by omega) (by omega) (by omega) ⟨Ext.refl _, rfl⟩
 intro a16 wd16 hN_16 hD_16 hO hR hA hU
 obtain ⟨_, t14, _⟩ := hA
 have hE_16 := hE_15.trans hR
 have s0_16 := (hO 0 rfl).trans s0_14
 have s2_16 := (hO 2 rfl).trans s2_14
 have s4_16 := (hO 4 rfl).trans s4_14
 have s5_16 := (hO 5 rfl).trans s5_14
 have hbb2_16 := hbb2_15.ext' hR
 have hbb4_16 := hbb4_15.ext' hR
 have hbb6_16 := hbb6_15.ext' hR
 have hsx1_16 := hsx1_15.ext' hR
 have hsxs_16 := hsxs_15.ext' hR
 have hsx22_0_6_16 := hsx22_0_6_15.ext' hR
 have hoxs_16 := hoxs_15.ext' hR
 have hox22_0_6_16 := hox22_0_6_15.ext' hR
 have s14_16 : get a16 14 = i64 ((k + 1 : Nat) : Int) := t14
 clear hE_15 hN_14 hD_14 s0_14 s2_14 s4_14 s5_14 s28_14 hbb2_15 hbb4_15 hbb6_15 hsx1_15 hsxs_15 hsx22_0_6_15 hoxs_15 hox22_0_6_15
 refine tail_put rfl rfl hN_16 hD_16 (by decide) (does_assign (V := i64 ((k + 1 : Nat) : Int)) s14_16 (fun a17 hN_17 hD_17 hv hO => ?_))
 have s5_17 := hv
 have s0_17 := (hO 0 rfl).trans s0_16
 have s2_17 := (hO 2 rfl).trans s2_16
 have s4_17 := (hO 4 rfl).trans s4_16
 clear hO hv hN_16 hD_16 s0_16 s2_16 s4_16 s14_16 s5_16
 refine tail_nil ?_
 exact ⟨_, by omega, k + 1, (addS s x).1, x22_0_6, rfl, hN_17, hD_17, s0_17, s2_17, s4_17, s5_17, hE_16, hbb2_16, hbb4_16, hsx1_16, hox22_0_6_16, nbo_x22_0_6_b2, nbo_x22_0_6_b4, by omega, hf.trans (fill_go hx (by omega)), by have := (add_le (l := s) (x := x)).1; omega, fun y hy => ((add_le (l := s) (x := x)).2 y hy).elim (hss y) (fun e => by rw [e]; exact hs x (mem_get hx))⟩
 have hc0 := of_decide_eq_false hc0
 refine wp_exit ?_
 refine wp_seq ?_
 refine region_lex [] [(29, Pr.ex (Value.agg #[xs]))] 1 hN_5 hD_5 (by kernel_rfl) (by kernel_rfl) ?_ ?_
 refine Asks.cons ?_ (Asks.zero _)
 exact Ask.plain rfl rfl fun aq wq hNq hO hR hT => does_loadD (o := 0) (n := 1) (mid := [xs]) ((hO 4 rfl).trans s4_5) (hbb4_5.ext' hR) rfl rfl (Nat.le_of_ble_eq_true rfl) row_24 rfl ⟨Ext.refl _, rfl⟩
 intro a18 wd18 hN_18 hD_18 hO hR hA hU
 obtain ⟨t29, _⟩ := hA
 have hE_18 := hE_5.trans hR
 have s2_18 := (hO 2 rfl).trans s2_5
 have hbb2_18 := hbb2_5.ext' hR
 have hbb4_18 := hbb4_5.ext' hR
 have hsx1_18 := hsx1_5.ext' hR
 have hsxs_18 := hsxs_5.ext' hR
 have hoxs_18 := hoxs_5.ext' hR
 have s29_18 : get a18 29 = Value.agg #[xs] := t29
 clear hE_5 hN_5 hD_5 s0_5 s2_5 s4_5 s5_5 s12_5 hbb2_5 hbb4_5 hsx1_5 hsxs_5 hoxs_5
 refine tail_none rfl rfl (does_storeD (o := 0) (n := 1) (cs' := [xs]) (V := Value.agg #[xs]) s2_18 s29_18 hbb2_18 (Nat.le_of_ble_eq_true rfl) rfl siz_24 (one_cons (SlT.one hsxs_18) one_nil) rfl (fun wd19 hX hz hbb2_19 => ?_))
 have hE_19 := hE_18.since hX (fun k e => e ▸ fr_b2)
 have hbb4_19 := hbb4_18.ext hX ne_b2_b4.symm
 have hsx1_19 := SlT.over hsx1_18 hX nb_x1_b2
 have hsxs_19 := SlT.over hsxs_18 hX (fun _ => nbo_xs_b2)
 have hoxs_19 := OwnT.ext hoxs_18 hX (fun k hk e => nbo_xs_b2 (e ▸ hk))
 clear hX hz hE_18 hbb2_18 hbb4_18 hsx1_18 hsxs_18 hoxs_18
 refine tail_put rfl rfl hN_18 hD_18 (by decide) (does_assign (V := Value.bool (true)) rfl (fun a20 hN_20 hD_20 hv hO => ?_))
 have s3_20 := hv
 have s2_20 := (hO 2 rfl).trans s2_18
 clear hO hv hN_18 hD_18 s2_18 s29_18
 refine tail_nil ?_
 refine wp_ret ?_
 refine res_two (V1 := Value.agg #[xs]) (V2 := Value.bool (true)) rfl hD_20 (ResIs.cell s2_20 hbb2_19 row_24 rfl rfl) s3_20 ?_
 obtain ⟨e1, e2⟩ := prod2is (hf.trans (fill_end (by omega)))
 rw [e1, e2]
 exact ⟨⟨_, _, rfl, ⟨_, rfl, hsxs_19.wide (Nat.zero_le _) (.inl rfl)⟩, rfl⟩, hE_19⟩

end Go.Proofs.YtijfjpbahepegaaDoor
