/- The walks of functions of the program: printed. -/
import Derived.Test.YtijfjpbahepegaaDoorK
import Derived.Test.YtijfjpbahepegaaDoorG3
import Derived.Test.YtijfjpbahepegaaDoorF0
set_option maxRecDepth 100000
namespace Go.Proofs.YtijfjpbahepegaaDoor
open Go Go.RowKit Sk Sd
theorem sign_ (n : Nat) (w0 : World) (hn : n < 16) :
    Gives Tryd.prog 115 #[i64 ((n : Nat) : Int)] w0 (Pr.ex (w8 (hexc n))) := by
 refine enter (N := 12) Tryd.func115 rfl rfl ?_
 intro a0 hN_0 hD_0 hA
 have s0_0 : get a0 0 = i64 ((n : Nat) : Int) := hA 0 _ rfl
 clear hA
 have hE_0 : Ext w0 w0 := Ext.refl w0
 refine wp_seq ?_
 refine region_lex [] [(2, Pr.ex (w8 (0)))] 1 hN_0 hD_0 (by kernel_rfl) (by kernel_rfl) ?_ ?_
 refine Asks.cons ?_ (Asks.zero _)
 exact Ask.plain rfl rfl fun aq wq hNq hO hR hT => does_assign (V := w8 (0)) rfl ⟨Ext.refl _, rfl⟩
 intro a1 wd1 hN_1 hD_1 hO hR hA hU
 obtain ⟨_, _⟩ := hA
 have hE_1 := hE_0.trans hR
 have s0_1 := (hO 0 rfl).trans s0_0
 clear hE_0 hN_0 hD_0 s0_0
 refine tail_nil ?_
 refine wp_seq ?_
 refine wp_seq ?_
 refine region_lex [] [(3, Pr.ex (i64 ((n : Nat) : Int))), (4, Pr.ex (Value.bool (decide (((n : Nat) : Int) < ((10 : Nat) : Int)))))] 2 hN_1 hD_1 (by kernel_rfl) (by kernel_rfl) ?_ ?_
 refine Asks.cons ?_ (Asks.cons ?_ (Asks.zero _))
 exact Ask.plain rfl rfl fun aq wq hNq hO hR hT => does_move (V := i64 ((n : Nat) : Int)) ((hO 0 rfl).trans s0_1) ⟨Ext.refl _, rfl⟩
 exact Ask.plain rfl rfl fun aq wq hNq hO hR hT => does_lss (a := ((n : Nat) : Int)) (b := ((10 : Nat) : Int)) (hT 3 rfl rfl) rfl ⟨Ext.refl _, rfl⟩
 intro a2 wd2 hN_2 hD_2 hO hR hA hU
 obtain ⟨_, t4, _⟩ := hA
 have hE_2 := hE_1.trans hR
 have s0_2 := (hO 0 rfl).trans s0_1
 have s4_2 : get a2 4 = Value.bool (decide (((n : Nat) : Int) < ((10 : Nat) : Int))) := t4
 clear hE_1 hN_1 hD_1 s0_1
 refine tail_nil ?_
 refine wp_if (B := decide (((n : Nat) : Int) < ((10 : Nat) : Int))) s4_2 (fun hc0 => ?_) (fun hc0 => ?_)
 have hc0 := of_decide_eq_true hc0
 refine wp_seq ?_
 refine region_lex [] [(5, Pr.ex (i64 ((n : Nat) : Int))), (6, Pr.ex (i64 ((48 + n : Nat) : Int))), (7, Pr.ex (w8 (UInt8.ofNat (48 + n)))), (2, Pr.ex (w8 (UInt8.ofNat (48 + n))))] 4 hN_2 hD_2 (by kernel_rfl) (by kernel_rfl) ?_ ?_
 refine Asks.cons ?_ (Asks.cons ?_ (Asks.cons ?_ (Asks.cons ?_ (Asks.zero _))))
 exact Ask.plain rfl rfl fun aq wq hNq hO hR hT => does_move (V := i64 ((n : Nat) : Int)) ((hO 0 rfl).trans s0_2) ⟨Ext.refl _, rfl⟩
 exact Ask.plain rfl rfl fun aq wq hNq hO hR hT => does_add (a := ((48 : Nat) : Int)) (b := ((n : Nat) : Int)) (r := ((48 + n : Nat) : Int)) rfl (hT 5 rfl rfl) (by omega) (by omega) (by omega) ⟨Ext.refl _, rfl⟩
 exact Ask.plain rfl rfl fun aq wq hNq hO hR hT => does_conv ⟨_, Tryd.underlying3⟩ Tryd.underlying5 (hT 6 rfl rfl) (wrap_u8 _) ⟨Ext.refl _, rfl⟩
 exact Ask.plain rfl rfl fun aq wq hNq hO hR hT => does_assign (V := w8 (UInt8.ofNat (48 + n))) (hT 7 rfl rfl) ⟨Ext.refl _, rfl⟩
 intro a3 wd3 hN_3 hD_3 hO hR hA hU
 obtain ⟨_, _, _, t2, _⟩ := hA
 have hE_3 := hE_2.trans hR
 have s2_3 : get a3 2 = w8 (UInt8.ofNat (48 + n)) := t2
 clear hE_2 hN_2 hD_2 s0_2 s4_2
 refine tail_nil ?_
 refine wp_ret ?_
 refine res_one (V := w8 (UInt8.ofNat (48 + n))) rfl hD_3 s2_3 ?_
 exact ⟨congrArg w8 (by rw [hexc_lo (by omega)]), hE_3⟩
 have hc0 := of_decide_eq_false hc0
 refine wp_skip ?_
 refine wp_seq ?_
 refine region_lex [] [(8, Pr.ex (i64 ((n : Nat) : Int))), (9, Pr.ex (i64 ((97 + n : Nat) : Int))), (10, Pr.ex (i64 (((97 + n) - 10 : Nat) : Int))), (11, Pr.ex (w8 (UInt8.ofNat ((97 + n) - 10)))), (2, Pr.ex (w8 (UInt8.ofNat ((97 + n) - 10))))] 5 hN_2 hD_2 (by kernel_rfl) (by kernel_rfl) ?_ ?_
 refine Asks.cons ?_ (Asks.cons ?_ (Asks.cons ?_ (Asks.cons ?_ (Asks.cons ?_ (Asks.zero _)))))
 exact Ask.plain rfl rfl fun aq wq hNq hO hR hT => does_move (V := i64 ((n : Nat) : Int)) ((hO 0 rfl).trans s0_2) ⟨Ext.refl _, rfl⟩
 exact Ask.plain rfl rfl fun aq wq hNq hO hR hT => does_add (a := ((97 : Nat) : Int)) (b := ((n : Nat) : Int)) (r := ((97 + n : Nat) : Int)) rfl (hT 8 rfl rfl) (by omega) (by omega) (by omega) ⟨Ext.refl _, rfl⟩
 exact Ask.plain rfl rfl fun aq wq hNq hO hR hT => does_sub (a := ((97 + n : Nat) : Int)) (b := ((10 : Nat) : Int)) (r := (((97 + n) - 10 : Nat) : Int)) (hT 9 rfl rfl) rfl (by omega) (by omega) (by omega) ⟨Ext.refl _, rfl⟩
 exact Ask.plain rfl rfl fun aq wq hNq hO hR hT => does_conv ⟨_, Tryd.underlying3⟩ Tryd.underlying5 (hT 10 rfl rfl) (wrap_u8 _) ⟨Ext.refl _, rfl⟩
 exact Ask.plain rfl rfl fun aq wq hNq hO hR hT => does_assign (V := w8 (UInt8.ofNat ((97 + n) - 10))) (hT 11 rfl rfl) ⟨Ext.refl _, rfl⟩
 intro a4 wd4 hN_4 hD_4 hO hR hA hU
 obtain ⟨_, _, _, _, t2, _⟩ := hA
 have hE_4 := hE_2.trans hR
 have s2_4 : get a4 2 = w8 (UInt8.ofNat ((97 + n) - 10)) := t2
 clear hE_2 hN_2 hD_2 s0_2 s4_2
 refine tail_nil ?_
 refine wp_ret ?_
 refine res_one (V := w8 (UInt8.ofNat ((97 + n) - 10))) rfl hD_4 s2_4 ?_
 exact ⟨congrArg w8 (by rw [hexc_hi (by omega)]), hE_4⟩

theorem text2 (l : List UInt8) (w0 : World) (hn : l.length ≤ 100000) :
    Gives Tryd.prog 114 #[str (l)] w0 (Pr.ex (str (hexs l))) := by
 refine enter (N := 28) Tryd.func114 rfl rfl ?_
 intro a0 hN_0 hD_0 hA
 have s0_0 : get a0 0 = str (l) := hA 0 _ rfl
 clear hA
 have hE_0 : Ext w0 w0 := Ext.refl w0
 refine wp_seq ?_
 refine region_lex [] [(2, Pr.ex (str (([] : List UInt8))))] 1 hN_0 hD_0 (by kernel_rfl) (by kernel_rfl) ?_ ?_
 refine Asks.cons ?_ (Asks.zero _)
 exact Ask.plain rfl rfl fun aq wq hNq hO hR hT => does_assign (V := str (([] : List UInt8))) rfl ⟨Ext.refl _, rfl⟩
 intro a1 wd1 hN_1 hD_1 hO hR hA hU
 obtain ⟨_, _⟩ := hA
 have hE_1 := hE_0.trans hR
 have s0_1 := (hO 0 rfl).trans s0_0
 clear hE_0 hN_0 hD_0 s0_0
 refine tail_nil ?_
 refine wp_seq ?_
 refine region_lex [] [(3, Pr.ex (Value.slice none 0 0))] 1 hN_1 hD_1 (by kernel_rfl) (by kernel_rfl) ?_ ?_
 refine Asks.cons ?_ (Asks.zero _)
 exact Ask.plain rfl rfl fun aq wq hNq hO hR hT => does_assign (V := Value.slice none 0 0) rfl ⟨Ext.refl _, rfl⟩
 intro a2 wd2 hN_2 hD_2 hO hR hA hU
 obtain ⟨t3, _⟩ := hA
 have hE_2 := hE_1.trans hR
 have s0_2 := (hO 0 rfl).trans s0_1
 have s3_2 : get a2 3 = Value.slice none 0 0 := t3
 clear hE_1 hN_1 hD_1 s0_1
 refine tail_nil ?_
 refine wp_seq ?_
 refine wp_seq ?_
 refine region_lex [] [(4, Pr.ex (i64 ((0 : Nat) : Int)))] 1 hN_2 hD_2 (by kernel_rfl) (by kernel_rfl) ?_ ?_
 refine Asks.cons ?_ (Asks.zero _)
 exact Ask.plain rfl rfl fun aq wq hNq hO hR hT => does_assign (V := i64 ((0 : Nat) : Int)) rfl ⟨Ext.refl _, rfl⟩
 intro a3 wd3 hN_3 hD_3 hO hR hA hU
 obtain ⟨t4, _⟩ := hA
 have hE_3 := hE_2.trans hR
 have s0_3 := (hO 0 rfl).trans s0_2
 have s3_3 := (hO 3 rfl).trans s3_2
 have s4_3 : get a3 4 = i64 ((0 : Nat) : Int) := t4
 clear hE_2 hN_2 hD_2 s0_2 s3_2
 refine tail_nil ?_
 refine wp_block ?_
 refine loop_g (fun mz az wz => ∃ k : Nat, ∃ xo : Value, mz = l.length - k ∧ (az.tmps.size = 28) ∧ (az.defers = []) ∧ (get az 0 = str (l)) ∧ (get az 3 = xo) ∧ (get az 4 = i64 ((k : Nat) : Int)) ∧ (Ext w0 wz) ∧ (OwnT W8 w0.heap.size 5 (hexs (l.take k)) xo wz) ∧ (k ≤ l.length)) ?_ ?_
 exact ⟨_, 0, (Value.slice none 0 0), rfl, hN_3, hD_3, s0_3, s3_3, s4_3, hE_3, (OwnT.nil W8 w0.heap.size 5 _), Nat.zero_le _⟩
 rintro mz a4 wd4 ⟨k, xo, rfl, hN_4, hD_4, s0_4, s3_4, s4_4, hE_4, hoxo_4, hk⟩
 have hsxo_4 := hoxo_4.sl.wide (Nat.zero_le _) (.inl rfl)
 refine wp_seq ?_
 refine wp_seq ?_
 refine region_lex [] [(5, Pr.ex (i64 ((k : Nat) : Int))), (6, Pr.ex (str (l))), (7, Pr.ex (i64 ((l.length : Nat) : Int))), (8, Pr.ex (Value.bool (decide (((k : Nat) : Int) < ((l.length : Nat) : Int)))))] 4 hN_4 hD_4 (by kernel_rfl) (by kernel_rfl) ?_ ?_
 refine Asks.cons ?_ (Asks.cons ?_ (Asks.cons ?_ (Asks.cons ?_ (Asks.zero _))))
 exact Ask.plain rfl rfl fun aq wq hNq hO hR hT => does_move (V := i64 ((k : Nat) : Int)) ((hO 4 rfl).trans s4_4) ⟨Ext.refl _, rfl⟩
 exact Ask.plain rfl rfl fun aq wq hNq hO hR hT => does_move (V := str (l)) ((hO 0 rfl).trans s0_4) ⟨Ext.refl _, rfl⟩
 exact Ask.plain rfl rfl fun aq wq hNq hO hR hT => does_lenStr (l := l) Tryd.underlying9 (hT 6 rfl rfl) ⟨Ext.refl _, rfl⟩
 exact Ask.plain rfl rfl fun aq wq hNq hO hR hT => does_lss (a := ((k : Nat) : Int)) (b := ((l.length : Nat) : Int)) (hT 5 rfl rfl) (hT 7 rfl rfl) ⟨Ext.refl _, rfl⟩
 intro a5 wd5 hN_5 hD_5 hO hR hA hU
 obtain ⟨_, _, _, t8, _⟩ := hA
 have hE_5 := hE_4.trans hR
 have s0_5 := (hO 0 rfl).trans s0_4
 have s3_5 := (hO 3 rfl).trans s3_4
 have s4_5 := (hO 4 rfl).trans s4_4
 have hsxo_5 := hsxo_4.ext' hR
 have hoxo_5 := hoxo_4.ext' hR
 have s8_5 : get a5 8 = Value.bool (decide (((k : Nat) : Int) < ((l.length : Nat) : Int))) := t8
 clear hE_4 hN_4 hD_4 s0_4 s3_4 s4_4 hsxo_4 hoxo_4
 refine tail_nil ?_
 refine wp_if (B := decide (((k : Nat) : Int) < ((l.length : Nat) : Int))) s8_5 (fun hc0 => ?_) (fun hc0 => ?_)
 have hc0 := of_decide_eq_true hc0
 obtain ⟨c, hc⟩ := get_of_lt (l := l) (k := k) (by omega)
 have hc8 := c.toNat_lt
 refine wp_skip ?_
 refine wp_seq ?_
 refine wp_block ?_
 refine region_any [] [(11, Pr.ex (xo)), (12, Pr.ex (str (l))), (13, Pr.ex (i64 ((k : Nat) : Int))), (14, Pr.ex (w8 (c))), (15, Pr.ex (i64 (((c).toNat : Nat) : Int))), (16, Pr.ex (i64 ((((c).toNat) / 16 : Nat) : Int))), (17, Pr.ex (w8 (hexc (((c).toNat) / 16)))), (18, Pr.ex (str (l))), (19, Pr.ex (i64 ((k : Nat) : Int))), (20, Pr.ex (w8 (c))), (21, Pr.ex (i64 (((c).toNat : Nat) : Int))), (22, Pr.ex (i64 ((((c).toNat) % 16 : Nat) : Int))), (23, Pr.ex (w8 (hexc (((c).toNat) % 16)))), (24, Pr.own' W8 wd5.heap.size 5 ([hexc (((c).toNat) / 16), hexc (((c).toNat) % 16)]))] 14 mixed hN_5 hD_5 (by kernel_rfl) (by kernel_rfl) (by kernel_rfl) ?_ ?_
 refine Asks.cons ?_ (Asks.cons ?_ (Asks.cons ?_ (Asks.cons ?_ (Asks.cons ?_ (Asks.cons ?_ (Asks.cons ?_ (Asks.cons ?_ (Asks.cons ?_ (Asks.cons ?_ (Asks.cons ?_ (Asks.cons ?_ (Asks.cons ?_ (Asks.cons ?_ (Asks.zero _))))))))))))))
 exact Ask.plainD rfl rfl fun aq wq hNq hO hR hT => does_move (V := xo) ((hO 3 rfl).trans s3_5) ⟨Ext.refl _, rfl⟩
 exact Ask.plainD rfl rfl fun aq wq hNq hO hR hT => does_move (V := str (l)) ((hO 0 rfl).trans s0_5) ⟨Ext.refl _, rfl⟩
 exact Ask.plainD rfl rfl fun aq wq hNq hO hR hT => does_move (V := i64 ((k : Nat) : Int)) ((hO 4 rfl).trans s4_5) ⟨Ext.refl _, rfl⟩
 exact Ask.plainD rfl rfl fun aq wq hNq hO hR hT => does_indexStr (l := l) (i := ((k : Nat) : Int)) (c := c) Tryd.underlying9 (hT 12 rfl rfl) (hT 13 rfl rfl) (by omega) hc ⟨Ext.refl _, rfl⟩
 exact Ask.plainD rfl rfl fun aq wq hNq hO hR hT => does_conv ⟨_, Tryd.underlying5⟩ Tryd.underlying3 (hT 14 rfl rfl) (conv_w_i8 _) ⟨Ext.refl _, rfl⟩
 exact Ask.plainD rfl rfl fun aq wq hNq hO hR hT => does_quo (a := (((c).toNat : Nat) : Int)) (b := ((16 : Nat) : Int)) (r := ((((c).toNat) / 16 : Nat) : Int)) (hT 15 rfl rfl) rfl (by omega) (by omega) (by omega) (by omega) ⟨Ext.refl _, rfl⟩
 exact Ask.plainD rfl rfl fun aq wq hNq hO hR hT => does_ret (vs := #[i64 ((((c).toNat) / 16 : Nat) : Int)]) call_115 (args1 (hT 16 rfl rfl)) rfl ((sign_ (((c).toNat) / 16) wq (by omega)).mono fun v w2 h => ⟨h.2, h.1⟩)
 exact Ask.plainD rfl rfl fun aq wq hNq hO hR hT => does_move (V := str (l)) ((hO 0 rfl).trans s0_5) ⟨Ext.refl _, rfl⟩
 exact Ask.plainD rfl rfl fun aq wq hNq hO hR hT => does_move (V := i64 ((k : Nat) : Int)) ((hO 4 rfl).trans s4_5) ⟨Ext.refl _, rfl⟩
 exact Ask.plainD rfl rfl fun aq wq hNq hO hR hT => does_indexStr (l := l) (i := ((k : Nat) : Int)) (c := c) Tryd.underlying9 (hT 18 rfl rfl) (hT 19 rfl rfl) (by omega) hc ⟨Ext.refl _, rfl⟩
 exact Ask.plainD rfl rfl fun aq wq hNq hO hR hT => does_conv ⟨_, Tryd.underlying5⟩ Tryd.underlying3 (hT 20 rfl rfl) (conv_w_i8 _) ⟨Ext.refl _, rfl⟩
 exact Ask.plainD rfl rfl fun aq wq hNq hO hR hT => does_rem (k := .i64) (a := (((c).toNat : Nat) : Int)) (b := ((16 : Nat) : Int)) (r := ((((c).toNat) % 16 : Nat) : Int)) (hT 21 rfl rfl) rfl (by omega) (by omega) (by omega) ⟨Ext.refl _, rfl⟩
 exact Ask.plainD rfl rfl fun aq wq hNq hO hR hT => does_ret (vs := #[i64 ((((c).toNat) % 16 : Nat) : Int)]) call_115 (args1 (hT 22 rfl rfl)) rfl ((sign_ (((c).toNat) % 16) wq (by omega)).mono fun v w2 h => ⟨h.2, h.1⟩)
 exact Ask.plainD rfl rfl fun aq wq hNq hO hR hT => does_sliceN (T := W8) (xs := [hexc (((c).toNat) / 16), hexc (((c).toNat) % 16)]) (vs := [w8 (hexc (((c).toNat) / 16)), w8 (hexc (((c).toNat) % 16))]) app_101 rfl (parts2 (hT 17 rfl rfl) (hT 23 rfl rfl)) rfl (by decide) (by decide) rfl (fun v w2 he _ ho => ⟨he, OwnT.base ho hR.size'⟩)
 intro a6 wd6 hN_6 hD_6 hO hR hA hU
 obtain ⟨t11, _, _, _, _, _, _, _, _, _, _, _, _, t24, _⟩ := hA
 have hE_6 := hE_5.trans hR
 have s0_6 := (hO 0 rfl).trans s0_5
 have s3_6 := (hO 3 rfl).trans s3_5
 have s4_6 := (hO 4 rfl).trans s4_5
 have hsxo_6 := hsxo_5.ext' hR
 have hoxo_6 := hoxo_5.ext' hR
 have s11_6 : get a6 11 = xo := t11
 obtain ⟨x24, s24_6⟩ : ∃ x, get a6 24 = x := ⟨_, rfl⟩
 replace t24 : OwnT W8 wd5.heap.size 5 ([hexc (((c).toNat) / 16), hexc (((c).toNat) % 16)]) x24 wd6 := by rw [← s24_6]; exact t24
 have no_x24_xo : ∀ k, x24.ownBlock = some k → xo.ownBlock ≠ some k := fun k e e' => Nat.lt_irrefl _ (Nat.lt_of_lt_of_le (OwnT.block_lt hoxo_5 e').2 (OwnT.block_lt t24 e).1)
 have hsx24_6 := t24.sl.wide (Nat.zero_le _) (.inl rfl)
 have hox24_6 := OwnT.base t24 hE_5.size'
 clear hE_5 hN_5 hD_5 s0_5 s3_5 s4_5 s8_5 hsxo_5 hoxo_5
 refine tail_put rfl rfl hN_6 hD_6 (by decide) (does_append (T := W8) (base := w0.heap.size) (xs := hexs (l.take k)) (ys := [hexc (((c).toNat) / 16), hexc (((c).toNat) % 16)]) (v := xo) app_101 s11_6 hoxo_6 (SlT.at s24_6 hsx24_6) (by simp) (by simp only [hexs_len, List.length_take, List.length_cons, List.length_nil]; omega) (by simp only [hexs_len, List.length_take, List.length_cons, List.length_nil]; omega) hE_6.size' (fun x25 wd7 hX hox25_7 hk a7 hN_7 hD_7 hv hO => ?_))
 have hE_7 := hE_6.since hX (fun b hb => Nat.le_trans (Nat.le_refl _) (OwnT.block_lt hoxo_6 hb).1)
 have hox24_7 := OwnT.ext hox24_6 hX (fun k hk e => no_x24_xo k hk e)
 have no_x25_x24 : ∀ k, x25.ownBlock = some k → x24.ownBlock ≠ some k := fun k e e' => (hk k e).elim (fun h => no_x24_xo k e' h) (fun h => Nat.lt_irrefl _ (Nat.lt_of_lt_of_le (OwnT.block_lt hox24_6 e').2 h))
 have hsx24_7 := hox24_7.sl.wide (Nat.zero_le _) (.inl rfl)
 have hsx25_7 := hox25_7.sl.wide (Nat.zero_le _) (.inl rfl)
 rw [hexs_step hc] at hox25_7 hsx25_7
 have s25_7 := hv
 have s0_7 := (hO 0 rfl).trans s0_6
 have s3_7 := (hO 3 rfl).trans s3_6
 have s4_7 := (hO 4 rfl).trans s4_6
 clear hO hv hX hk hN_6 hD_6 hE_6 hox24_6 s0_6 s3_6 s4_6 s11_6 s24_6
 refine tail_put rfl rfl hN_7 hD_7 (by decide) (does_assign (V := x25) s25_7 (fun a8 hN_8 hD_8 hv hO => ?_))
 have s3_8 := hv
 have s0_8 := (hO 0 rfl).trans s0_7
 have s4_8 := (hO 4 rfl).trans s4_7
 clear hO hv hN_7 hD_7 s0_7 s4_7 s25_7 s3_7
 refine tail_nil ?_
 refine region_lex [] [(9, Pr.ex (i64 ((k : Nat) : Int))), (10, Pr.ex (i64 ((k + 1 : Nat) : Int)))] 2 hN_8 hD_8 (by kernel_rfl) (by kernel_rfl) ?_ ?_
 refine Asks.cons ?_ (Asks.cons ?_ (Asks.zero _))
 exact Ask.plain rfl rfl fun aq wq hNq hO hR hT => does_move (V := i64 ((k : Nat) : Int)) ((hO 4 rfl).trans s4_8) ⟨Ext.refl _, rfl⟩
 exact Ask.plain rfl rfl fun aq wq hNq hO hR hT => does_add (a := ((k : Nat) : Int)) (b := ((1 : Nat) : Int)) (r := ((k + 1 : Nat) : Int)) (hT 9 rfl rfl) rfl (by omega) (by omega) (by omega) ⟨Ext.refl _, rfl⟩
 intro a9 wd9 hN_9 hD_9 hO hR hA hU
 obtain ⟨_, t10, _⟩ := hA
 have hE_9 := hE_7.trans hR
 have s0_9 := (hO 0 rfl).trans s0_8
 have s3_9 := (hO 3 rfl).trans s3_8
 have s4_9 := (hO 4 rfl).trans s4_8
 have hsx24_9 := hsx24_7.ext' hR
 have hsx25_9 := hsx25_7.ext' hR
 have hox24_9 := hox24_7.ext' hR
 have hox25_9 := hox25_7.ext' hR
 have s10_9 : get a9 10 = i64 ((k + 1 : Nat) : Int) := t10
 clear hE_7 hN_8 hD_8 s0_8 s3_8 s4_8 hsx24_7 hsx25_7 hox24_7 hox25_7
 refine tail_put rfl rfl hN_9 hD_9 (by decide) (does_assign (V := i64 ((k + 1 : Nat) : Int)) s10_9 (fun a10 hN_10 hD_10 hv hO => ?_))
 have s4_10 := hv
 have s0_10 := (hO 0 rfl).trans s0_9
 have s3_10 := (hO 3 rfl).trans s3_9
 clear hO hv hN_9 hD_9 s0_9 s3_9 s10_9 s4_9
 refine tail_nil ?_
 exact ⟨_, by omega, k + 1, x25, rfl, hN_10, hD_10, s0_10, s3_10, s4_10, hE_9, hox25_9, by omega⟩
 have hc0 := of_decide_eq_false hc0
 have hkl : hexs (l.take k) = hexs l := by rw [List.take_of_length_le (by omega)]
 refine wp_exit ?_
 refine wp_seq ?_
 refine region_lex [] [(26, Pr.ex (xo)), (27, Pr.ex (str (hexs (l.take k)))), (2, Pr.ex (str (hexs (l.take k))))] 3 hN_5 hD_5 (by kernel_rfl) (by kernel_rfl) ?_ ?_
 refine Asks.cons ?_ (Asks.cons ?_ (Asks.cons ?_ (Asks.zero _)))
 exact Ask.plain rfl rfl fun aq wq hNq hO hR hT => does_move (V := xo) ((hO 3 rfl).trans s3_5) ⟨Ext.refl _, rfl⟩
 exact Ask.plain rfl rfl fun aq wq hNq hO hR hT => does_string (l := hexs (l.take k)) Tryd.underlying9 Tryd.underlying101 Tryd.underlying5 (SlT.at (hT 26 rfl rfl) (hsxo_5.ext' hR)) ⟨Ext.refl _, rfl⟩
 exact Ask.plain rfl rfl fun aq wq hNq hO hR hT => does_assign (V := str (hexs (l.take k))) (hT 27 rfl rfl) ⟨Ext.refl _, rfl⟩
 intro a11 wd11 hN_11 hD_11 hO hR hA hU
 obtain ⟨_, _, t2, _⟩ := hA
 have hE_11 := hE_5.trans hR
 have hsxo_11 := hsxo_5.ext' hR
 have hoxo_11 := hoxo_5.ext' hR
 have s2_11 : get a11 2 = str (hexs (l.take k)) := t2
 clear hE_5 hN_5 hD_5 s0_5 s3_5 s4_5 s8_5 hsxo_5 hoxo_5
 refine tail_nil ?_
 refine wp_ret ?_
 refine res_one (V := str (hexs (l.take k))) rfl hD_11 s2_11 ?_
 exact ⟨by show str _ = str _; rw [hkl], hE_11⟩

theorem text3 (m : Dg) (w0 : World) :
    Gives Tryd.prog 110 #[Dg.val (m)] w0 (Pr.ex (str ((digits m).map hexc))) := by
 refine enter (N := 34) Tryd.func110 rfl rfl ?_
 intro a0 hN_0 hD_0 hA
 have s0_0 : get a0 0 = Dg.val (m) := hA 0 _ rfl
 clear hA
 have hE_0 : Ext w0 w0 := Ext.refl w0
 refine wp_seq ?_
 refine region_lex [1] [(1, Pr.box' w0.heap.size 27 [w32 (m).a, w32 (m).b, w32 (m).c, w32 (m).d]), (2, Pr.ex (str (([] : List UInt8))))] 2 hN_0 hD_0 (by kernel_rfl) (by kernel_rfl) ?_ ?_
 refine Asks.cons ?_ (Asks.cons ?_ (Asks.zero _))
 refine Ask.fresh rfl rfl ?_
 intro aq wq hNq hO hR hT
 exact does_box (V := Dg.val (m)) ((hO 0 rfl).trans s0_0) (fun b w2 he hlo hb => ⟨he, ⟨b, rfl, Nat.le_trans hR.size' hlo, hb⟩, ⟨b, rfl, hlo, hb.lt⟩⟩)
 exact Ask.plain rfl rfl fun aq wq hNq hO hR hT => does_assign (V := str (([] : List UInt8))) rfl ⟨Ext.refl _, rfl⟩
 intro a1 wd1 hN_1 hD_1 hO hR hA hU
 obtain ⟨t1, _, _⟩ := hA
 have hE_1 := hE_0.trans hR
 obtain ⟨b1, s1_1, lo_b1, hbb1_1⟩ := t1
 have fr_b1 : w0.heap.size ≤ b1 := Nat.le_trans hE_0.size' lo_b1
 clear hE_0 hN_0 hD_0 s0_0
 refine tail_nil ?_
 refine wp_seq ?_
 refine region_lex [] [(3, Pr.ex (str (([] : List UInt8))))] 1 hN_1 hD_1 (by kernel_rfl) (by kernel_rfl) ?_ ?_
 refine Asks.cons ?_ (Asks.zero _)
 exact Ask.plain rfl rfl fun aq wq hNq hO hR hT => does_assign (V := str (([] : List UInt8))) rfl ⟨Ext.refl _, rfl⟩
 intro a2 wd2 hN_2 hD_2 hO hR hA hU
 obtain ⟨t3, _⟩ := hA
 have hE_2 := hE_1.trans hR
 have s1_2 := (hO 1 rfl).trans s1_1
 have hbb1_2 := hbb1_1.ext' hR
 have s3_2 : get a2 3 = str (([] : List UInt8)) := t3
 clear hE_1 hN_1 hD_1 s1_1 hbb1_1
 refine tail_nil ?_
 refine wp_seq ?_
 refine wp_seq ?_
 refine region_lex [] [(4, Pr.ex (i64 ((0 : Nat) : Int)))] 1 hN_2 hD_2 (by kernel_rfl) (by kernel_rfl) ?_ ?_
 refine Asks.cons ?_ (Asks.zero _)
 exact Ask.plain rfl rfl fun aq wq hNq hO hR hT => does_assign (V := i64 ((0 : Nat) : Int)) rfl ⟨Ext.refl _, rfl⟩
 intro a3 wd3 hN_3 hD_3 hO hR hA hU
 obtain ⟨t4, _⟩ := hA
 have hE_3 := hE_2.trans hR
 have s1_3 := (hO 1 rfl).trans s1_2
 have s3_3 := (hO 3 rfl).trans s3_2
 have hbb1_3 := hbb1_2.ext' hR
 have s4_3 : get a3 4 = i64 ((0 : Nat) : Int) := t4
 clear hE_2 hN_2 hD_2 s1_2 s3_2 hbb1_2
 refine tail_nil ?_
 refine wp_block ?_
 refine loop_g (fun mz az wz => ∃ k : Nat, mz = 4 - k ∧ (az.tmps.size = 34) ∧ (az.defers = []) ∧ (get az 1 = Value.pointer (some ⟨b1, 0, none⟩)) ∧ (get az 3 = str (beU m k)) ∧ (get az 4 = i64 ((k : Nat) : Int)) ∧ (Ext w0 wz) ∧ (Has wz b1 27 [w32 (m).a, w32 (m).b, w32 (m).c, w32 (m).d]) ∧ (k ≤ 4)) ?_ ?_
 exact ⟨_, 0, rfl, hN_3, hD_3, s1_3, s3_3, s4_3, hE_3, hbb1_3, by decide⟩
 rintro mz a4 wd4 ⟨k, rfl, hN_4, hD_4, s1_4, s3_4, s4_4, hE_4, hbb1_4, hk⟩
 refine wp_seq ?_
 refine wp_seq ?_
 refine region_lex [] [(5, Pr.ex (i64 ((k : Nat) : Int))), (6, Pr.ex (Value.bool (decide (((k : Nat) : Int) < ((4 : Nat) : Int)))))] 2 hN_4 hD_4 (by kernel_rfl) (by kernel_rfl) ?_ ?_
 refine Asks.cons ?_ (Asks.cons ?_ (Asks.zero _))
 exact Ask.plain rfl rfl fun aq wq hNq hO hR hT => does_move (V := i64 ((k : Nat) : Int)) ((hO 4 rfl).trans s4_4) ⟨Ext.refl _, rfl⟩
 exact Ask.plain rfl rfl fun aq wq hNq hO hR hT => does_lss (a := ((k : Nat) : Int)) (b := ((4 : Nat) : Int)) (hT 5 rfl rfl) rfl ⟨Ext.refl _, rfl⟩
 intro a5 wd5 hN_5 hD_5 hO hR hA hU
 obtain ⟨_, t6, _⟩ := hA
 have hE_5 := hE_4.trans hR
 have s1_5 := (hO 1 rfl).trans s1_4
 have s3_5 := (hO 3 rfl).trans s3_4
 have s4_5 := (hO 4 rfl).trans s4_4
 have hbb1_5 := hbb1_4.ext' hR
 have s6_5 : get a5 6 = Value.bool (decide (((k : Nat) : Int) < ((4 : Nat) : Int))) := t6
 clear hE_4 hN_4 hD_4 s1_4 s3_4 s4_4 hbb1_4
 refine tail_nil ?_
 refine wp_if (B := decide (((k : Nat) : Int) < ((4 : Nat) : Int))) s6_5 (fun hc0 => ?_) (fun hc0 => ?_)
 have hc0 := of_decide_eq_true hc0
 refine wp_skip ?_
 refine wp_seq ?_
 refine wp_block ?_
 refine region_any [] [(9, Pr.ex (str (beU m k))), (10, Pr.ex (i64 ((k : Nat) : Int))), (11, Pr.pt' 0 0 [w32 (Dg.at m k)]), (12, Pr.ex (w32 (Dg.at m k))), (13, Pr.ex (w32 (UInt32.ofNat ((Dg.at m k).toNat / 2 ^ 24)))), (14, Pr.ex (w8 (UInt8.ofNat (UInt32.ofNat ((Dg.at m k).toNat / 2 ^ 24)).toNat))), (15, Pr.ex (i64 ((k : Nat) : Int))), (16, Pr.pt' 0 0 [w32 (Dg.at m k)]), (17, Pr.ex (w32 (Dg.at m k))), (18, Pr.ex (w32 (UInt32.ofNat ((Dg.at m k).toNat / 2 ^ 16)))), (19, Pr.ex (w8 (UInt8.ofNat (UInt32.ofNat ((Dg.at m k).toNat / 2 ^ 16)).toNat))), (20, Pr.ex (i64 ((k : Nat) : Int))), (21, Pr.pt' 0 0 [w32 (Dg.at m k)]), (22, Pr.ex (w32 (Dg.at m k))), (23, Pr.ex (w32 (UInt32.ofNat ((Dg.at m k).toNat / 2 ^ 8)))), (24, Pr.ex (w8 (UInt8.ofNat (UInt32.ofNat ((Dg.at m k).toNat / 2 ^ 8)).toNat))), (25, Pr.ex (i64 ((k : Nat) : Int))), (26, Pr.pt' 0 0 [w32 (Dg.at m k)]), (27, Pr.ex (w32 (Dg.at m k))), (28, Pr.ex (w8 (UInt8.ofNat (Dg.at m k).toNat))), (29, Pr.own' W8 wd5.heap.size 5 ([UInt8.ofNat (UInt32.ofNat ((Dg.at m k).toNat / 2 ^ 24)).toNat, UInt8.ofNat (UInt32.ofNat ((Dg.at m k).toNat / 2 ^ 16)).toNat, UInt8.ofNat (UInt32.ofNat ((Dg.at m k).toNat / 2 ^ 8)).toNat, UInt8.ofNat (Dg.at m k).toNat])), (30, Pr.ex (str ([UInt8.ofNat (UInt32.ofNat ((Dg.at m k).toNat / 2 ^ 24)).toNat, UInt8.ofNat (UInt32.ofNat ((Dg.at m k).toNat / 2 ^ 16)).toNat, UInt8.ofNat (UInt32.ofNat ((Dg.at m k).toNat / 2 ^ 8)).toNat, UInt8.ofNat (Dg.at m k).toNat]))), (31, Pr.ex (str ((beU m k) ++ [UInt8.ofNat (UInt32.ofNat ((Dg.at m k).toNat / 2 ^ 24)).toNat, UInt8.ofNat (UInt32.ofNat ((Dg.at m k).toNat / 2 ^ 16)).toNat, UInt8.ofNat (UInt32.ofNat ((Dg.at m k).toNat / 2 ^ 8)).toNat, UInt8.ofNat (Dg.at m k).toNat])))] 23 mixed hN_5 hD_5 (by kernel_rfl) (by kernel_rfl) (by kernel_rfl) ?_ ?_
 refine Asks.cons ?_ (Asks.cons ?_ (Asks.cons ?_ (Asks.cons ?_ (Asks.cons ?_ (Asks.cons ?_ (Asks.cons ?_ (Asks.cons ?_ (Asks.cons ?_ (Asks.cons ?_ (Asks.cons ?_ (Asks.cons ?_ (Asks.cons ?_ (Asks.cons ?_ (Asks.cons ?_ (Asks.cons ?_ (Asks.cons ?_ (Asks.cons ?_ (Asks.cons ?_ (Asks.cons ?_ (Asks.cons ?_ (Asks.cons ?_ (Asks.cons ?_ (Asks.zero _)))))))))))))))))))))))
 exact Ask.plainD rfl rfl fun aq wq hNq hO hR hT => does_move (V := str (beU m k)) ((hO 3 rfl).trans s3_5) ⟨Ext.refl _, rfl⟩
 exact Ask.plainD rfl rfl fun aq wq hNq hO hR hT => does_move (V := i64 ((k : Nat) : Int)) ((hO 4 rfl).trans s4_5) ⟨Ext.refl _, rfl⟩
 exact Ask.plainD rfl rfl fun aq wq hNq hO hR hT => does_indexDgP (m := m) (i := ((k : Nat) : Int)) arr_27 ((hO 1 rfl).trans s1_5) (hT 10 rfl rfl) (by omega) (by omega) (hbb1_5.ext' hR) (fun v h => ⟨Ext.refl _, h⟩)
 exact Ask.plainD rfl rfl fun aq wq hNq hO hR hT => does_loadP1 (V := w32 (Dg.at m k)) (hT 11 rfl rfl) one_25 ⟨Ext.refl _, rfl⟩
 exact Ask.plainD rfl rfl fun aq wq hNq hO hR hT => does_shr32 (a := Dg.at m k) (b := 24) (hT 12 rfl rfl) rfl (by decide) ⟨Ext.refl _, rfl⟩
 exact Ask.plainD rfl rfl fun aq wq hNq hO hR hT => does_conv ⟨_, Tryd.underlying25⟩ Tryd.underlying5 (hT 13 rfl rfl) (wrap_u8 _) ⟨Ext.refl _, rfl⟩
 exact Ask.plainD rfl rfl fun aq wq hNq hO hR hT => does_move (V := i64 ((k : Nat) : Int)) ((hO 4 rfl).trans s4_5) ⟨Ext.refl _, rfl⟩
 exact Ask.plainD rfl rfl fun aq wq hNq hO hR hT => does_indexDgP (m := m) (i := ((k : Nat) : Int)) arr_27 ((hO 1 rfl).trans s1_5) (hT 15 rfl rfl) (by omega) (by omega) (hbb1_5.ext' hR) (fun v h => ⟨Ext.refl _, h⟩)
 exact Ask.plainD rfl rfl fun aq wq hNq hO hR hT => does_loadP1 (V := w32 (Dg.at m k)) (hT 16 rfl rfl) one_25 ⟨Ext.refl _, rfl⟩
 exact Ask.plainD rfl rfl fun aq wq hNq hO hR hT => does_shr32 (a := Dg.at m k) (b := 16) (hT 17 rfl rfl) rfl (by decide) ⟨Ext.refl _, rfl⟩
 exact Ask.plainD rfl rfl fun aq wq hNq hO hR hT => does_conv ⟨_, Tryd.underlying25⟩ Tryd.underlying5 (hT 18 rfl rfl) (wrap_u8 _) ⟨Ext.refl _, rfl⟩
 exact Ask.plainD rfl rfl fun aq wq hNq hO hR hT => does_move (V := i64 ((k : Nat) : Int)) ((hO 4 rfl).trans s4_5) ⟨Ext.refl _, rfl⟩
 exact Ask.plainD rfl rfl fun aq wq hNq hO hR hT => does_indexDgP (m := m) (i := ((k : Nat) : Int)) arr_27 ((hO 1 rfl).trans s1_5) (hT 20 rfl rfl) (by omega) (by omega) (hbb1_5.ext' hR) (fun v h => ⟨Ext.refl _, h⟩)
 exact Ask.plainD rfl rfl fun aq wq hNq hO hR hT => does_loadP1 (V := w32 (Dg.at m k)) (hT 21 rfl rfl) one_25 ⟨Ext.refl _, rfl⟩
 exact Ask.plainD rfl rfl fun aq wq hNq hO hR hT => does_shr32 (a := Dg.at m k) (b := 8) (hT 22 rfl rfl) rfl (by decide) ⟨Ext.refl _, rfl⟩
 exact Ask.plainD rfl rfl fun aq wq hNq hO hR hT => does_conv ⟨_, Tryd.underlying25⟩ Tryd.underlying5 (hT 23 rfl rfl) (wrap_u8 _) ⟨Ext.refl _, rfl⟩
 exact Ask.plainD rfl rfl fun aq wq hNq hO hR hT => does_move (V := i64 ((k : Nat) : Int)) ((hO 4 rfl).trans s4_5) ⟨Ext.refl _, rfl⟩
 exact Ask.plainD rfl rfl fun aq wq hNq hO hR hT => does_indexDgP (m := m) (i := ((k : Nat) : Int)) arr_27 ((hO 1 rfl).trans s1_5) (hT 25 rfl rfl) (by omega) (by omega) (hbb1_5.ext' hR) (fun v h => ⟨Ext.refl _, h⟩)
 exact Ask.plainD rfl rfl fun aq wq hNq hO hR hT => does_loadP1 (V := w32 (Dg.at m k)) (hT 26 rfl rfl) one_25 ⟨Ext.refl _, rfl⟩
 exact Ask.plainD rfl rfl fun aq wq hNq hO hR hT => does_conv ⟨_, Tryd.underlying25⟩ Tryd.underlying5 (hT 27 rfl rfl) (wrap_u8 _) ⟨Ext.refl _, rfl⟩
 exact Ask.plainD rfl rfl fun aq wq hNq hO hR hT => does_sliceN (T := W8) (xs := [UInt8.ofNat (UInt32.ofNat ((Dg.at m k).toNat / 2 ^ 24)).toNat, UInt8.ofNat (UInt32.ofNat ((Dg.at m k).toNat / 2 ^ 16)).toNat, UInt8.ofNat (UInt32.ofNat ((Dg.at m k).toNat / 2 ^ 8)).toNat, UInt8.ofNat (Dg.at m k).toNat]) (vs := [w8 (UInt8.ofNat (UInt32.ofNat ((Dg.at m k).toNat / 2 ^ 24)).toNat), w8 (UInt8.ofNat (UInt32.ofNat ((Dg.at m k).toNat / 2 ^ 16)).toNat), w8 (UInt8.ofNat (UInt32.ofNat ((Dg.at m k).toNat / 2 ^ 8)).toNat), w8 (UInt8.ofNat (Dg.at m k).toNat)]) app_101 rfl (parts4 (hT 14 rfl rfl) (hT 19 rfl rfl) (hT 24 rfl rfl) (hT 28 rfl rfl)) rfl (by decide) (by decide) rfl (fun v w2 he _ ho => ⟨he, OwnT.base ho hR.size'⟩)
 exact Ask.plainD rfl rfl fun aq wq hNq hO hR hT => does_string (l := [UInt8.ofNat (UInt32.ofNat ((Dg.at m k).toNat / 2 ^ 24)).toNat, UInt8.ofNat (UInt32.ofNat ((Dg.at m k).toNat / 2 ^ 16)).toNat, UInt8.ofNat (UInt32.ofNat ((Dg.at m k).toNat / 2 ^ 8)).toNat, UInt8.ofNat (Dg.at m k).toNat]) Tryd.underlying9 Tryd.underlying101 Tryd.underlying5 ((OwnT.sl (hT 29 rfl rfl)).wide (Nat.zero_le _) (.inl rfl)) ⟨Ext.refl _, rfl⟩
 exact Ask.plainD rfl rfl fun aq wq hNq hO hR hT => does_cat (a := beU m k) (b := [UInt8.ofNat (UInt32.ofNat ((Dg.at m k).toNat / 2 ^ 24)).toNat, UInt8.ofNat (UInt32.ofNat ((Dg.at m k).toNat / 2 ^ 16)).toNat, UInt8.ofNat (UInt32.ofNat ((Dg.at m k).toNat / 2 ^ 8)).toNat, UInt8.ofNat (Dg.at m k).toNat]) (hT 9 rfl rfl) (hT 30 rfl rfl) (by rw [beU_len]; simp only [List.length_cons, List.length_nil]; omega) ⟨Ext.refl _, rfl⟩
 intro a6 wd6 hN_6 hD_6 hO hR hA hU
 obtain ⟨_, _, _, _, _, _, _, _, _, _, _, _, _, _, _, _, _, _, _, _, _, _, t31, _⟩ := hA
 have hE_6 := hE_5.trans hR
 have s1_6 := (hO 1 rfl).trans s1_5
 have s3_6 := (hO 3 rfl).trans s3_5
 have s4_6 := (hO 4 rfl).trans s4_5
 have hbb1_6 := hbb1_5.ext' hR
 have s31_6 : get a6 31 = str ((beU m k) ++ [UInt8.ofNat (UInt32.ofNat ((Dg.at m k).toNat / 2 ^ 24)).toNat, UInt8.ofNat (UInt32.ofNat ((Dg.at m k).toNat / 2 ^ 16)).toNat, UInt8.ofNat (UInt32.ofNat ((Dg.at m k).toNat / 2 ^ 8)).toNat, UInt8.ofNat (Dg.at m k).toNat]) := t31
 clear hE_5 hN_5 hD_5 s1_5 s3_5 s4_5 s6_5 hbb1_5
 refine tail_put rfl rfl hN_6 hD_6 (by decide) (does_assign (V := str ((beU m k) ++ [UInt8.ofNat (UInt32.ofNat ((Dg.at m k).toNat / 2 ^ 24)).toNat, UInt8.ofNat (UInt32.ofNat ((Dg.at m k).toNat / 2 ^ 16)).toNat, UInt8.ofNat (UInt32.ofNat ((Dg.at m k).toNat / 2 ^ 8)).toNat, UInt8.ofNat (Dg.at m k).toNat])) s31_6 (fun a7 hN_7 hD_7 hv hO => ?_))
 have s3_7 := hv
 have s1_7 := (hO 1 rfl).trans s1_6
 have s4_7 := (hO 4 rfl).trans s4_6
 clear hO hv hN_6 hD_6 s1_6 s4_6 s31_6 s3_6
 refine tail_nil ?_
 refine region_lex [] [(7, Pr.ex (i64 ((k : Nat) : Int))), (8, Pr.ex (i64 ((k + 1 : Nat) : Int)))] 2 hN_7 hD_7 (by kernel_rfl) (by kernel_rfl) ?_ ?_
 refine Asks.cons ?_ (Asks.cons ?_ (Asks.zero _))
 exact Ask.plain rfl rfl fun aq wq hNq hO hR hT => does_move (V := i64 ((k : Nat) : Int)) ((hO 4 rfl).trans s4_7) ⟨Ext.refl _, rfl⟩
 exact Ask.plain rfl rfl fun aq wq hNq hO hR hT => does_add (a := ((k : Nat) : Int)) (b := ((1 : Nat) : Int)) (r := ((k + 1 : Nat) : Int)) (hT 7 rfl rfl) rfl (by omega) (by omega) (by omega) ⟨Ext.refl _, rfl⟩
 intro a8 wd8 hN_8 hD_8 hO hR hA hU
 obtain ⟨_, t8, _⟩ := hA
 have hE_8 := hE_6.trans hR
 have s1_8 := (hO 1 rfl).trans s1_7
 have s3_8 := (hO 3 rfl).trans s3_7
 have s4_8 := (hO 4 rfl).trans s4_7
 have hbb1_8 := hbb1_6.ext' hR
 have s8_8 : get a8 8 = i64 ((k + 1 : Nat) : Int) := t8
 clear hE_6 hN_7 hD_7 s1_7 s3_7 s4_7 hbb1_6
 refine tail_put rfl rfl hN_8 hD_8 (by decide) (does_assign (V := i64 ((k + 1 : Nat) : Int)) s8_8 (fun a9 hN_9 hD_9 hv hO => ?_))
 have s4_9 := hv
 have s1_9 := (hO 1 rfl).trans s1_8
 have s3_9 := (hO 3 rfl).trans s3_8
 clear hO hv hN_8 hD_8 s1_8 s3_8 s8_8 s4_8
 refine tail_nil ?_
 exact ⟨_, by omega, k + 1, rfl, hN_9, hD_9, s1_9, (by rw [beU_step]; exact s3_9), s4_9, hE_8, hbb1_8, by omega⟩
 have hc0 := of_decide_eq_false hc0
 refine wp_exit ?_
 refine wp_seq ?_
 refine region_lex [] [(32, Pr.ex (str (beU m k))), (33, Pr.ex (str (hexs (beU m k)))), (2, Pr.ex (str (hexs (beU m k))))] 3 hN_5 hD_5 (by kernel_rfl) (by kernel_rfl) ?_ ?_
 refine Asks.cons ?_ (Asks.cons ?_ (Asks.cons ?_ (Asks.zero _)))
 exact Ask.plain rfl rfl fun aq wq hNq hO hR hT => does_move (V := str (beU m k)) ((hO 3 rfl).trans s3_5) ⟨Ext.refl _, rfl⟩
 exact Ask.plain rfl rfl fun aq wq hNq hO hR hT => does_ret (vs := #[str (beU m k)]) call_114 (args1 (hT 32 rfl rfl)) rfl ((text2 (beU m k) wq (by rw [beU_len]; omega)).mono fun v w2 h => ⟨h.2, h.1⟩)
 exact Ask.plain rfl rfl fun aq wq hNq hO hR hT => does_assign (V := str (hexs (beU m k))) (hT 33 rfl rfl) ⟨Ext.refl _, rfl⟩
 intro a10 wd10 hN_10 hD_10 hO hR hA hU
 obtain ⟨_, _, t2, _⟩ := hA
 have hE_10 := hE_5.trans hR
 have hbb1_10 := hbb1_5.ext' hR
 have s2_10 : get a10 2 = str (hexs (beU m k)) := t2
 clear hE_5 hN_5 hD_5 s1_5 s3_5 s4_5 s6_5 hbb1_5
 refine tail_nil ?_
 refine wp_ret ?_
 refine res_one (V := str (hexs (beU m k))) rfl hD_10 s2_10 ?_
 have hk4 : k = 4 := by omega
 exact ⟨by show str _ = str _; rw [hk4, text_eq], hE_10⟩

end Go.Proofs.YtijfjpbahepegaaDoor
