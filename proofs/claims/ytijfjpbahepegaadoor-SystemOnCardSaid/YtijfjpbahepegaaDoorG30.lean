/- The walks of functions of the program: printed. -/
import Derived.Test.YtijfjpbahepegaaDoorK
import Derived.Test.YtijfjpbahepegaaDoorG3
import Derived.Test.YtijfjpbahepegaaDoorG6
import Derived.Test.YtijfjpbahepegaaDoorF0
set_option maxRecDepth 100000
namespace Go.Proofs.YtijfjpbahepegaaDoor
open Go Go.RowKit Sk Sd
theorem find1 (s : List UInt8) (d : Dg) (bd : Nat) (w0 : World) (hL : Laid w0) (hbd : Has w0 bd 27 [w32 d.a, w32 d.b, w32 d.c, w32 d.d]) (hn : s.length ≤ 65536) :
    Gives Tryd.prog 67 #[str (s), Value.pointer (some ⟨bd, 0, none⟩)] w0 (Pr.ex (Value.bool (decide (of s = d)))) := by
 refine enter (N := 8) Tryd.func67 rfl rfl ?_
 intro a0 hN_0 hD_0 hA
 have s0_0 : get a0 0 = str (s) := hA 0 _ rfl
 have s1_0 : get a0 1 = Value.pointer (some ⟨bd, 0, none⟩) := hA 1 _ rfl
 clear hA
 have hE_0 : Ext w0 w0 := Ext.refl w0
 refine wp_seq ?_
 refine region_lex [] [(3, Pr.ex (Value.bool (false)))] 1 hN_0 hD_0 (by kernel_rfl) (by kernel_rfl) ?_ ?_
 refine Asks.cons ?_ (Asks.zero _)
 exact Ask.plain rfl rfl fun aq wq hNq hO hR hT => does_assign (V := Value.bool (false)) rfl ⟨Ext.refl _, rfl⟩
 intro a1 wd1 hN_1 hD_1 hO hR hA hU
 obtain ⟨_, _⟩ := hA
 have hE_1 := hE_0.trans hR
 have s0_1 := (hO 0 rfl).trans s0_0
 have s1_1 := (hO 1 rfl).trans s1_0
 have hbbd_1 := hbd.ext' hR
 clear hE_0 hN_0 hD_0 s0_0 s1_0 hbd
 refine tail_nil ?_
 refine wp_seq ?_
 refine region_any [] [(4, Pr.ex (str (s))), (5, Pr.ex (Dg.val (of s))), (6, Pr.ex (Dg.val (d))), (7, Pr.ex (Value.bool (decide (of s = d)))), (3, Pr.ex (Value.bool (decide (of s = d))))] 5 mixed hN_1 hD_1 (by kernel_rfl) (by kernel_rfl) (by kernel_rfl) ?_ ?_
 refine Asks.cons ?_ (Asks.cons ?_ (Asks.cons ?_ (Asks.cons ?_ (Asks.cons ?_ (Asks.zero _)))))
 exact Ask.plainD rfl rfl fun aq wq hNq hO hR hT => does_move (V := str (s)) ((hO 0 rfl).trans s0_1) ⟨Ext.refl _, rfl⟩
 exact Ask.plainD rfl rfl fun aq wq hNq hO hR hT => does_ret (vs := #[str (s)]) call_42 (args1 (hT 4 rfl rfl)) rfl ((of_ (s) wq (hL.ext (hE_1.trans hR)) hn).mono fun v w2 h => ⟨h.2, h.1⟩)
 exact Ask.plainD rfl rfl fun aq wq hNq hO hR hT => does_loadD (o := 0) (n := 4) (mid := [w32 (d).a, w32 (d).b, w32 (d).c, w32 (d).d]) ((hO 1 rfl).trans s1_1) (hbbd_1.ext' hR) rfl rfl (Nat.le_of_ble_eq_true rfl) row_27 rfl ⟨Ext.refl _, rfl⟩
 exact Ask.plainD rfl rfl fun aq wq hNq hO hR hT => does_eqT (a := of s) (b := d) eq_27 (hT 5 rfl rfl) (hT 6 rfl rfl) ⟨Ext.refl _, rfl⟩
 exact Ask.plainD rfl rfl fun aq wq hNq hO hR hT => does_assign (V := Value.bool (decide (of s = d))) (hT 7 rfl rfl) ⟨Ext.refl _, rfl⟩
 intro a2 wd2 hN_2 hD_2 hO hR hA hU
 obtain ⟨_, _, _, _, t3, _⟩ := hA
 have hE_2 := hE_1.trans hR
 have hbbd_2 := hbbd_1.ext' hR
 have s3_2 : get a2 3 = Value.bool (decide (of s = d)) := t3
 clear hE_1 hN_1 hD_1 s0_1 s1_1 hbbd_1
 refine tail_nil ?_
 refine wp_ret ?_
 refine res_one (V := Value.bool (decide (of s = d))) rfl hD_2 s3_2 ?_
 exact ⟨rfl, hE_2⟩

theorem indexF (items : List (List UInt8)) (d : Dg) (bd : Nat) (x1 : Value) (w0 : World) (hL : Laid w0) (hx1 : SlT Str 0 0 items x1 w0) (hbd : Has w0 bd 27 [w32 d.a, w32 d.b, w32 d.c, w32 d.d]) (hs : ∀ x ∈ items, x.length ≤ 65536) (hn : items.length ≤ 100000) :
    Gives Tryd.prog 66 #[x1, Value.func (.func 67) #[] #[Value.pointer (some ⟨bd, 0, none⟩)]] w0 (Pr.ex (i64 (findI items d))) := by
 refine enter (N := 19) Tryd.func66 rfl rfl ?_
 intro a0 hN_0 hD_0 hA
 have s0_0 : get a0 0 = x1 := hA 0 _ rfl
 have s1_0 : get a0 1 = Value.func (.func 67) #[] #[Value.pointer (some ⟨bd, 0, none⟩)] := hA 1 _ rfl
 clear hA
 have hE_0 : Ext w0 w0 := Ext.refl w0
 have hsx1_0 := hx1.close
 refine wp_seq ?_
 refine region_lex [] [(4, Pr.ex (i64 ((0 : Nat) : Int)))] 1 hN_0 hD_0 (by kernel_rfl) (by kernel_rfl) ?_ ?_
 refine Asks.cons ?_ (Asks.zero _)
 exact Ask.plain rfl rfl fun aq wq hNq hO hR hT => does_assign (V := i64 ((0 : Nat) : Int)) rfl ⟨Ext.refl _, rfl⟩
 intro a1 wd1 hN_1 hD_1 hO hR hA hU
 obtain ⟨_, _⟩ := hA
 have hE_1 := hE_0.trans hR
 have s0_1 := (hO 0 rfl).trans s0_0
 have s1_1 := (hO 1 rfl).trans s1_0
 have hbbd_1 := hbd.ext' hR
 have hsx1_1 := hsx1_0.ext' hR
 clear hE_0 hN_0 hD_0 s0_0 s1_0 hbd hsx1_0
 refine tail_nil ?_
 refine wp_seq ?_
 refine wp_seq ?_
 refine region_lex [] [(6, Pr.ex (x1)), (7, Pr.ex (i64 ((items.length : Nat) : Int))), (8, Pr.ex (i64 ((0 : Nat) : Int)))] 3 hN_1 hD_1 (by kernel_rfl) (by kernel_rfl) ?_ ?_
 refine Asks.cons ?_ (Asks.cons ?_ (Asks.cons ?_ (Asks.zero _)))
 exact Ask.plain rfl rfl fun aq wq hNq hO hR hT => does_move (V := x1) ((hO 0 rfl).trans s0_1) ⟨Ext.refl _, rfl⟩
 exact Ask.plain rfl rfl fun aq wq hNq hO hR hT => does_len (T := Str) (xs := items) sli_22 (SlT.at (hT 6 rfl rfl) (hsx1_1.ext' hR)) ⟨Ext.refl _, rfl⟩
 exact Ask.plain rfl rfl fun aq wq hNq hO hR hT => does_move (V := i64 ((0 : Nat) : Int)) rfl ⟨Ext.refl _, rfl⟩
 intro a2 wd2 hN_2 hD_2 hO hR hA hU
 obtain ⟨_, t7, t8, _⟩ := hA
 have hE_2 := hE_1.trans hR
 have s0_2 := (hO 0 rfl).trans s0_1
 have s1_2 := (hO 1 rfl).trans s1_1
 have hbbd_2 := hbbd_1.ext' hR
 have hsx1_2 := hsx1_1.ext' hR
 have s7_2 : get a2 7 = i64 ((items.length : Nat) : Int) := t7
 have s8_2 : get a2 8 = i64 ((0 : Nat) : Int) := t8
 clear hE_1 hN_1 hD_1 s0_1 s1_1 hbbd_1 hsx1_1
 refine tail_nil ?_
 refine wp_block ?_
 refine loop_g (fun mz az wz => ∃ k : Nat, mz = items.length - k ∧ (az.tmps.size = 19) ∧ (az.defers = []) ∧ (get az 0 = x1) ∧ (get az 1 = Value.func (.func 67) #[] #[Value.pointer (some ⟨bd, 0, none⟩)]) ∧ (get az 7 = i64 ((items.length : Nat) : Int)) ∧ (get az 8 = i64 ((k : Nat) : Int)) ∧ (Ext w0 wz) ∧ (Has wz bd 27 [w32 (d).a, w32 (d).b, w32 (d).c, w32 (d).d]) ∧ (SlT Str 0 (w0.heap.size + 1) (items) x1 wz) ∧ (∀ j y, j < k → items[j]? = some y → ¬ of y = d) ∧ (k ≤ items.length)) ?_ ?_
 exact ⟨_, 0, rfl, hN_2, hD_2, s0_2, s1_2, s7_2, s8_2, hE_2, hbbd_2, hsx1_2, fun j y hj => absurd hj (Nat.not_lt_zero _), Nat.zero_le _⟩
 rintro mz a3 wd3 ⟨k, rfl, hN_3, hD_3, s0_3, s1_3, s7_3, s8_3, hE_3, hbbd_3, hsx1_3, hall, hk⟩
 refine wp_seq ?_
 refine region_lex [] [(9, Pr.ex (Value.bool (decide (((k : Nat) : Int) < ((items.length : Nat) : Int)))))] 1 hN_3 hD_3 (by kernel_rfl) (by kernel_rfl) ?_ ?_
 refine Asks.cons ?_ (Asks.zero _)
 exact Ask.plain rfl rfl fun aq wq hNq hO hR hT => does_lss (a := ((k : Nat) : Int)) (b := ((items.length : Nat) : Int)) ((hO 8 rfl).trans s8_3) ((hO 7 rfl).trans s7_3) ⟨Ext.refl _, rfl⟩
 intro a4 wd4 hN_4 hD_4 hO hR hA hU
 obtain ⟨t9, _⟩ := hA
 have hE_4 := hE_3.trans hR
 have s0_4 := (hO 0 rfl).trans s0_3
 have s1_4 := (hO 1 rfl).trans s1_3
 have s7_4 := (hO 7 rfl).trans s7_3
 have s8_4 := (hO 8 rfl).trans s8_3
 have hbbd_4 := hbbd_3.ext' hR
 have hsx1_4 := hsx1_3.ext' hR
 have s9_4 : get a4 9 = Value.bool (decide (((k : Nat) : Int) < ((items.length : Nat) : Int))) := t9
 clear hE_3 hN_3 hD_3 s0_3 s1_3 s7_3 s8_3 hbbd_3 hsx1_3
 refine tail_nil ?_
 refine wp_seq ?_
 refine wp_if (B := decide (((k : Nat) : Int) < ((items.length : Nat) : Int))) s9_4 (fun hc0 => ?_) (fun hc0 => ?_)
 have hc0 := of_decide_eq_true hc0
 obtain ⟨x, hx⟩ := get_of_lt (l := items) (k := k) (by omega)
 refine wp_skip ?_
 refine wp_seq ?_
 refine wp_block ?_
 refine wp_seq ?_
 refine region_lex [] [(10, Pr.ex (i64 ((k : Nat) : Int))), (5, Pr.ex (i64 ((k : Nat) : Int)))] 2 hN_4 hD_4 (by kernel_rfl) (by kernel_rfl) ?_ ?_
 refine Asks.cons ?_ (Asks.cons ?_ (Asks.zero _))
 exact Ask.plain rfl rfl fun aq wq hNq hO hR hT => does_move (V := i64 ((k : Nat) : Int)) ((hO 8 rfl).trans s8_4) ⟨Ext.refl _, rfl⟩
 exact Ask.plain rfl rfl fun aq wq hNq hO hR hT => does_assign (V := i64 ((k : Nat) : Int)) (hT 10 rfl rfl) ⟨Ext.refl _, rfl⟩
 intro a5 wd5 hN_5 hD_5 hO hR hA hU
 obtain ⟨_, t5, _⟩ := hA
 have hE_5 := hE_4.trans hR
 have s0_5 := (hO 0 rfl).trans s0_4
 have s1_5 := (hO 1 rfl).trans s1_4
 have s7_5 := (hO 7 rfl).trans s7_4
 have s8_5 := (hO 8 rfl).trans s8_4
 have hbbd_5 := hbbd_4.ext' hR
 have hsx1_5 := hsx1_4.ext' hR
 have s5_5 : get a5 5 = i64 ((k : Nat) : Int) := t5
 clear hE_4 hN_4 hD_4 s0_4 s1_4 s7_4 s8_4 s9_4 hbbd_4 hsx1_4
 refine tail_nil ?_
 refine wp_seq ?_
 refine region_lex [] [(11, Pr.ex (Value.func (.func 67) #[] #[Value.pointer (some ⟨bd, 0, none⟩)])), (12, Pr.ex (x1)), (13, Pr.ex (i64 ((k : Nat) : Int))), (14, Pr.pt' 0 (w0.heap.size + 1) [str (x)]), (15, Pr.ex (str (x))), (16, Pr.ex (Value.bool (decide (of x = d))))] 6 hN_5 hD_5 (by kernel_rfl) (by kernel_rfl) ?_ ?_
 refine Asks.cons ?_ (Asks.cons ?_ (Asks.cons ?_ (Asks.cons ?_ (Asks.cons ?_ (Asks.cons ?_ (Asks.zero _))))))
 exact Ask.plain rfl rfl fun aq wq hNq hO hR hT => does_move (V := Value.func (.func 67) #[] #[Value.pointer (some ⟨bd, 0, none⟩)]) ((hO 1 rfl).trans s1_5) ⟨Ext.refl _, rfl⟩
 exact Ask.plain rfl rfl fun aq wq hNq hO hR hT => does_move (V := x1) ((hO 0 rfl).trans s0_5) ⟨Ext.refl _, rfl⟩
 exact Ask.plain rfl rfl fun aq wq hNq hO hR hT => does_move (V := i64 ((k : Nat) : Int)) ((hO 5 rfl).trans s5_5) ⟨Ext.refl _, rfl⟩
 exact Ask.plain rfl rfl fun aq wq hNq hO hR hT => does_indexSl (T := Str) (xs := items) (i := ((k : Nat) : Int)) (X := x) sli_22 rfl (SlT.at (hT 12 rfl rfl) (hsx1_5.ext' hR)) (hT 13 rfl rfl) (by omega) hx (fun v h => ⟨Ext.refl _, h⟩)
 exact Ask.plain rfl rfl fun aq wq hNq hO hR hT => does_loadP1 (V := str (x)) (hT 14 rfl rfl) one_9 ⟨Ext.refl _, rfl⟩
 exact Ask.plain rfl rfl fun aq wq hNq hO hR hT => does_retv (vs := #[str (x)]) (cap := #[Value.pointer (some ⟨bd, 0, none⟩)]) call_67 (args1 (hT 15 rfl rfl)) (hT 11 rfl rfl) ((find1 (x) (d) bd wq (hL.ext (hE_5.trans hR)) (hbbd_5.ext' hR) (hs _ (mem_get hx))).mono fun v w2 h => ⟨h.2, h.1⟩)
 intro a6 wd6 hN_6 hD_6 hO hR hA hU
 obtain ⟨_, _, _, _, _, t16, _⟩ := hA
 have hE_6 := hE_5.trans hR
 have s0_6 := (hO 0 rfl).trans s0_5
 have s1_6 := (hO 1 rfl).trans s1_5
 have s5_6 := (hO 5 rfl).trans s5_5
 have s7_6 := (hO 7 rfl).trans s7_5
 have s8_6 := (hO 8 rfl).trans s8_5
 have hbbd_6 := hbbd_5.ext' hR
 have hsx1_6 := hsx1_5.ext' hR
 have s16_6 : get a6 16 = Value.bool (decide (of x = d)) := t16
 clear hE_5 hN_5 hD_5 s0_5 s1_5 s5_5 s7_5 s8_5 hbbd_5 hsx1_5
 refine tail_nil ?_
 refine wp_if (B := decide (of x = d)) s16_6 (fun hc1 => ?_) (fun hc1 => ?_)
 have hc1 := of_decide_eq_true hc1
 refine wp_seq ?_
 refine region_lex [] [(17, Pr.ex (i64 ((k : Nat) : Int))), (4, Pr.ex (i64 ((k : Nat) : Int)))] 2 hN_6 hD_6 (by kernel_rfl) (by kernel_rfl) ?_ ?_
 refine Asks.cons ?_ (Asks.cons ?_ (Asks.zero _))
 exact Ask.plain rfl rfl fun aq wq hNq hO hR hT => does_move (V := i64 ((k : Nat) : Int)) ((hO 5 rfl).trans s5_6) ⟨Ext.refl _, rfl⟩
 exact Ask.plain rfl rfl fun aq wq hNq hO hR hT => does_assign (V := i64 ((k : Nat) : Int)) (hT 17 rfl rfl) ⟨Ext.refl _, rfl⟩
 intro a7 wd7 hN_7 hD_7 hO hR hA hU
 obtain ⟨_, t4, _⟩ := hA
 have hE_7 := hE_6.trans hR
 have hbbd_7 := hbbd_6.ext' hR
 have hsx1_7 := hsx1_6.ext' hR
 have s4_7 : get a7 4 = i64 ((k : Nat) : Int) := t4
 clear hE_6 hN_6 hD_6 s0_6 s1_6 s5_6 s7_6 s8_6 s16_6 hbbd_6 hsx1_6
 refine tail_nil ?_
 refine wp_ret ?_
 refine res_one (V := i64 ((k : Nat) : Int)) rfl hD_7 s4_7 ?_
 exact ⟨by show i64 _ = i64 _; rw [find_at hx hc1 (fun j y hj hy => hall j y hj hy)], hE_7⟩
 have hc1 := of_decide_eq_false hc1
 refine wp_skip ?_
 refine region_lex [] [(18, Pr.ex (i64 ((k + 1 : Nat) : Int)))] 1 hN_6 hD_6 (by kernel_rfl) (by kernel_rfl) ?_ ?_
 refine Asks.cons ?_ (Asks.zero _)
 exact Ask.plain rfl rfl fun aq wq hNq hO hR hT => does_add (a := ((k : Nat) : Int)) (b := ((1 : Nat) : Int)) (r := ((k + 1 : Nat) : Int)) ((hO 8 rfl).trans s8_6) rfl (by omega) (by omega) (by omega) ⟨Ext.refl _, rfl⟩
 intro a8 wd8 hN_8 hD_8 hO hR hA hU
 obtain ⟨t18, _⟩ := hA
 have hE_8 := hE_6.trans hR
 have s0_8 := (hO 0 rfl).trans s0_6
 have s1_8 := (hO 1 rfl).trans s1_6
 have s7_8 := (hO 7 rfl).trans s7_6
 have s8_8 := (hO 8 rfl).trans s8_6
 have hbbd_8 := hbbd_6.ext' hR
 have hsx1_8 := hsx1_6.ext' hR
 have s18_8 : get a8 18 = i64 ((k + 1 : Nat) : Int) := t18
 clear hE_6 hN_6 hD_6 s0_6 s1_6 s5_6 s7_6 s8_6 s16_6 hbbd_6 hsx1_6
 refine tail_put rfl rfl hN_8 hD_8 (by decide) (does_move (V := i64 ((k + 1 : Nat) : Int)) s18_8 (fun a9 hN_9 hD_9 hv hO => ?_))
 have s8_9 := hv
 have s0_9 := (hO 0 rfl).trans s0_8
 have s1_9 := (hO 1 rfl).trans s1_8
 have s7_9 := (hO 7 rfl).trans s7_8
 clear hO hv hN_8 hD_8 s0_8 s1_8 s7_8 s18_8 s8_8
 refine tail_nil ?_
 exact ⟨_, by omega, k + 1, rfl, hN_9, hD_9, s0_9, s1_9, s7_9, s8_9, hE_8, hbbd_8, hsx1_8, fun j y hj hy => (Nat.lt_succ_iff_lt_or_eq.1 hj).elim (fun h => hall j y h hy) (fun h => by subst h; rw [hx] at hy; cases hy; exact hc1), by omega⟩
 have hc0 := of_decide_eq_false hc0
 refine wp_exit ?_
 refine wp_seq ?_
 refine region_lex [] [(4, Pr.ex (i64 (-1)))] 1 hN_4 hD_4 (by kernel_rfl) (by kernel_rfl) ?_ ?_
 refine Asks.cons ?_ (Asks.zero _)
 exact Ask.plain rfl rfl fun aq wq hNq hO hR hT => does_assign (V := i64 (-1)) rfl ⟨Ext.refl _, rfl⟩
 intro a10 wd10 hN_10 hD_10 hO hR hA hU
 obtain ⟨t4, _⟩ := hA
 have hE_10 := hE_4.trans hR
 have hbbd_10 := hbbd_4.ext' hR
 have hsx1_10 := hsx1_4.ext' hR
 have s4_10 : get a10 4 = i64 (-1) := t4
 clear hE_4 hN_4 hD_4 s0_4 s1_4 s7_4 s8_4 s9_4 hbbd_4 hsx1_4
 refine tail_nil ?_
 refine wp_ret ?_
 refine res_one (V := i64 (-1)) rfl hD_10 s4_10 ?_
 exact ⟨by show i64 _ = i64 _; rw [find_no (fun j y hj hy => hall j y (by omega) hy)], hE_10⟩

theorem find_ (items : List (List UInt8)) (d : Dg) (x1 : Value) (w0 : World) (hL : Laid w0) (hx1 : SlT Str 0 0 items x1 w0) (hs : ∀ x ∈ items, x.length ≤ 65536) (hn : items.length ≤ 100000) :
    Gives Tryd.prog 46 #[Value.agg #[x1], Dg.val (d)] w0 (Pr.ex (i64 (findI items d))) := by
 refine enter (N := 9) Tryd.func46 rfl rfl ?_
 intro a0 hN_0 hD_0 hA
 have s0_0 : get a0 0 = Value.agg #[x1] := hA 0 _ rfl
 have s1_0 : get a0 1 = Dg.val (d) := hA 1 _ rfl
 clear hA
 have hE_0 : Ext w0 w0 := Ext.refl w0
 have hsx1_0 := hx1.close
 refine wp_seq ?_
 refine region_lex [2, 3] [(2, Pr.box' w0.heap.size 24 [x1]), (3, Pr.box' w0.heap.size 27 [w32 (d).a, w32 (d).b, w32 (d).c, w32 (d).d]), (4, Pr.ex (i64 ((0 : Nat) : Int)))] 3 hN_0 hD_0 (by kernel_rfl) (by kernel_rfl) ?_ ?_
 refine Asks.cons ?_ (Asks.cons ?_ (Asks.cons ?_ (Asks.zero _)))
 refine Ask.fresh rfl rfl ?_
 intro aq wq hNq hO hR hT
 exact does_box (V := Value.agg #[x1]) ((hO 0 rfl).trans s0_0) (fun b w2 he hlo hb => ⟨he, ⟨b, rfl, Nat.le_trans hR.size' hlo, hb⟩, ⟨b, rfl, hlo, hb.lt⟩⟩)
 refine Ask.fresh rfl rfl ?_
 intro aq wq hNq hO hR hT
 exact does_box (V := Dg.val (d)) ((hO 1 rfl).trans s1_0) (fun b w2 he hlo hb => ⟨he, ⟨b, rfl, Nat.le_trans hR.size' hlo, hb⟩, ⟨b, rfl, hlo, hb.lt⟩⟩)
 exact Ask.plain rfl rfl fun aq wq hNq hO hR hT => does_assign (V := i64 ((0 : Nat) : Int)) rfl ⟨Ext.refl _, rfl⟩
 intro a1 wd1 hN_1 hD_1 hO hR hA hU
 obtain ⟨t2, t3, _, _⟩ := hA
 have hE_1 := hE_0.trans hR
 have hsx1_1 := hsx1_0.ext' hR
 obtain ⟨b2, s2_1, lo_b2, hbb2_1⟩ := t2
 have nb_x1_b2 := SlT.old hsx1_0 lo_b2
 have fr_b2 : w0.heap.size ≤ b2 := Nat.le_trans hE_0.size' lo_b2
 obtain ⟨b3, s3_1, lo_b3, hbb3_1⟩ := t3
 have nb_x1_b3 := SlT.old hsx1_0 lo_b3
 have fr_b3 : w0.heap.size ≤ b3 := Nat.le_trans hE_0.size' lo_b3
 obtain ⟨u0, ⟨u1, _⟩⟩ := hU
 have ne_b2_b3 : b2 ≠ b3 := fun e => u0 3 (by decide) (by rw [s2_1, s3_1, e])
 clear hE_0 hN_0 hD_0 s0_0 s1_0 hsx1_0
 refine tail_nil ?_
 refine wp_seq ?_
 refine region_lex [] [(5, Pr.ex (Value.pointer (some ⟨b2, 0, none⟩))), (6, Pr.ex (x1)), (7, Pr.ex (Value.func (.func 67) #[] #[Value.pointer (some ⟨b3, 0, none⟩)])), (8, Pr.ex (i64 (findI items d))), (4, Pr.ex (i64 (findI items d)))] 5 hN_1 hD_1 (by kernel_rfl) (by kernel_rfl) ?_ ?_
 refine Asks.cons ?_ (Asks.cons ?_ (Asks.cons ?_ (Asks.cons ?_ (Asks.cons ?_ (Asks.zero _)))))
 exact Ask.plain rfl rfl fun aq wq hNq hO hR hT => does_field (o' := 0) fld_24_0 ((hO 2 rfl).trans s2_1) rfl ⟨Ext.refl _, rfl⟩
 exact Ask.plain rfl rfl fun aq wq hNq hO hR hT => does_loadD1 (o := 0) (V := x1) (hT 5 rfl rfl) (hbb2_1.ext' hR) rfl one_22 ⟨Ext.refl _, rfl⟩
 exact Ask.plain rfl rfl fun aq wq hNq hO hR hT => does_makeFunc (vs := #[Value.pointer (some ⟨b3, 0, none⟩)]) (args1 ((hO 3 rfl).trans s3_1)) ⟨Ext.refl _, rfl⟩
 exact Ask.plain rfl rfl fun aq wq hNq hO hR hT => does_ret (vs := #[x1, Value.func (.func 67) #[] #[Value.pointer (some ⟨b3, 0, none⟩)]]) call_66 (args2 (hT 6 rfl rfl) (hT 7 rfl rfl)) rfl ((indexF (items) (d) b3 (x1) wq (hL.ext (hE_1.trans hR)) ((hsx1_1.ext' hR).wide (Nat.zero_le _) (.inl rfl)) (hbb3_1.ext' hR) hs hn).mono fun v w2 h => ⟨h.2, h.1⟩)
 exact Ask.plain rfl rfl fun aq wq hNq hO hR hT => does_assign (V := i64 (findI items d)) (hT 8 rfl rfl) ⟨Ext.refl _, rfl⟩
 intro a2 wd2 hN_2 hD_2 hO hR hA hU
 obtain ⟨_, _, _, _, t4, _⟩ := hA
 have hE_2 := hE_1.trans hR
 have hbb2_2 := hbb2_1.ext' hR
 have hbb3_2 := hbb3_1.ext' hR
 have hsx1_2 := hsx1_1.ext' hR
 have s4_2 : get a2 4 = i64 (findI items d) := t4
 clear hE_1 hN_1 hD_1 s2_1 s3_1 hbb2_1 hbb3_1 hsx1_1
 refine tail_nil ?_
 refine wp_ret ?_
 refine res_one (V := i64 (findI items d)) rfl hD_2 s4_2 ?_
 exact ⟨rfl, hE_2⟩

theorem with_ (items : List (List UInt8)) (s : List UInt8) (x1 : Value) (w0 : World) (hx1 : SlT Str 0 0 items x1 w0) (hn : items.length ≤ 100000) :
    Gives Tryd.prog 47 #[Value.agg #[x1], str (s)] w0 (Pr.ag (fun x => Value.agg #[x]) (Pr.own' Str w0.heap.size 9 (items ++ [s]))) := by
 refine enter (N := 18) Tryd.func47 rfl rfl ?_
 intro a0 hN_0 hD_0 hA
 have s0_0 : get a0 0 = Value.agg #[x1] := hA 0 _ rfl
 have s1_0 : get a0 1 = str (s) := hA 1 _ rfl
 clear hA
 have hE_0 : Ext w0 w0 := Ext.refl w0
 have hsx1_0 := hx1.close
 refine wp_seq ?_
 refine region_lex [2, 4] [(2, Pr.box' w0.heap.size 24 [x1]), (4, Pr.box' w0.heap.size 24 [Value.slice none 0 0])] 2 hN_0 hD_0 (by kernel_rfl) (by kernel_rfl) ?_ ?_
 refine Asks.cons ?_ (Asks.cons ?_ (Asks.zero _))
 refine Ask.fresh rfl rfl ?_
 intro aq wq hNq hO hR hT
 exact does_box (V := Value.agg #[x1]) ((hO 0 rfl).trans s0_0) (fun b w2 he hlo hb => ⟨he, ⟨b, rfl, Nat.le_trans hR.size' hlo, hb⟩, ⟨b, rfl, hlo, hb.lt⟩⟩)
 refine Ask.fresh rfl rfl ?_
 intro aq wq hNq hO hR hT
 exact does_alloc zero_24 (fun b w2 he hlo hb => ⟨he, ⟨b, rfl, Nat.le_trans hR.size' hlo, hb⟩, ⟨b, rfl, hlo, hb.lt⟩⟩)
 intro a1 wd1 hN_1 hD_1 hO hR hA hU
 obtain ⟨t2, t4, _⟩ := hA
 have hE_1 := hE_0.trans hR
 have s1_1 := (hO 1 rfl).trans s1_0
 have hsx1_1 := hsx1_0.ext' hR
 obtain ⟨b2, s2_1, lo_b2, hbb2_1⟩ := t2
 have nb_x1_b2 := SlT.old hsx1_0 lo_b2
 have fr_b2 : w0.heap.size ≤ b2 := Nat.le_trans hE_0.size' lo_b2
 obtain ⟨b4, s4_1, lo_b4, hbb4_1⟩ := t4
 have nb_x1_b4 := SlT.old hsx1_0 lo_b4
 have fr_b4 : w0.heap.size ≤ b4 := Nat.le_trans hE_0.size' lo_b4
 obtain ⟨u0, ⟨u1, _⟩⟩ := hU
 have ne_b2_b4 : b2 ≠ b4 := fun e => u0 4 (by decide) (by rw [s2_1, s4_1, e])
 clear hE_0 hN_0 hD_0 s0_0 s1_0 hsx1_0
 refine tail_nil ?_
 refine wp_seq ?_
 refine region_lex [] [(6, Pr.ex (Value.pointer (some ⟨b2, 0, none⟩))), (7, Pr.ex (x1)), (8, Pr.ex (i64 ((items.length : Nat) : Int))), (5, Pr.ex (i64 ((items.length : Nat) : Int)))] 4 hN_1 hD_1 (by kernel_rfl) (by kernel_rfl) ?_ ?_
 refine Asks.cons ?_ (Asks.cons ?_ (Asks.cons ?_ (Asks.cons ?_ (Asks.zero _))))
 exact Ask.plain rfl rfl fun aq wq hNq hO hR hT => does_field (o' := 0) fld_24_0 ((hO 2 rfl).trans s2_1) rfl ⟨Ext.refl _, rfl⟩
 exact Ask.plain rfl rfl fun aq wq hNq hO hR hT => does_loadD1 (o := 0) (V := x1) (hT 6 rfl rfl) (hbb2_1.ext' hR) rfl one_22 ⟨Ext.refl _, rfl⟩
 exact Ask.plain rfl rfl fun aq wq hNq hO hR hT => does_len (T := Str) (xs := items) sli_22 (SlT.at (hT 7 rfl rfl) (hsx1_1.ext' hR)) ⟨Ext.refl _, rfl⟩
 exact Ask.plain rfl rfl fun aq wq hNq hO hR hT => does_assign (V := i64 ((items.length : Nat) : Int)) (hT 8 rfl rfl) ⟨Ext.refl _, rfl⟩
 intro a2 wd2 hN_2 hD_2 hO hR hA hU
 obtain ⟨_, _, _, t5, _⟩ := hA
 have hE_2 := hE_1.trans hR
 have s1_2 := (hO 1 rfl).trans s1_1
 have s2_2 := (hO 2 rfl).trans s2_1
 have s4_2 := (hO 4 rfl).trans s4_1
 have hbb2_2 := hbb2_1.ext' hR
 have hbb4_2 := hbb4_1.ext' hR
 have hsx1_2 := hsx1_1.ext' hR
 have s5_2 : get a2 5 = i64 ((items.length : Nat) : Int) := t5
 clear hE_1 hN_1 hD_1 s1_1 s2_1 s4_1 hbb2_1 hbb4_1 hsx1_1
 refine tail_nil ?_
 refine wp_seq ?_
 refine region_lex [] [(9, Pr.ex (Value.pointer (some ⟨b2, 0, none⟩))), (10, Pr.ex (x1)), (11, Pr.ex (i64 ((items.length : Nat) : Int))), (12, Pr.ex (i64 ((items.length : Nat) : Int)))] 4 hN_2 hD_2 (by kernel_rfl) (by kernel_rfl) ?_ ?_
 refine Asks.cons ?_ (Asks.cons ?_ (Asks.cons ?_ (Asks.cons ?_ (Asks.zero _))))
 exact Ask.plain rfl rfl fun aq wq hNq hO hR hT => does_field (o' := 0) fld_24_0 ((hO 2 rfl).trans s2_2) rfl ⟨Ext.refl _, rfl⟩
 exact Ask.plain rfl rfl fun aq wq hNq hO hR hT => does_loadD1 (o := 0) (V := x1) (hT 9 rfl rfl) (hbb2_2.ext' hR) rfl one_22 ⟨Ext.refl _, rfl⟩
 exact Ask.plain rfl rfl fun aq wq hNq hO hR hT => does_move (V := i64 ((items.length : Nat) : Int)) ((hO 5 rfl).trans s5_2) ⟨Ext.refl _, rfl⟩
 exact Ask.plain rfl rfl fun aq wq hNq hO hR hT => does_move (V := i64 ((items.length : Nat) : Int)) ((hO 5 rfl).trans s5_2) ⟨Ext.refl _, rfl⟩
 intro a3 wd3 hN_3 hD_3 hO hR hA hU
 obtain ⟨_, t10, t11, t12, _⟩ := hA
 have hE_3 := hE_2.trans hR
 have s1_3 := (hO 1 rfl).trans s1_2
 have s4_3 := (hO 4 rfl).trans s4_2
 have hbb2_3 := hbb2_2.ext' hR
 have hbb4_3 := hbb4_2.ext' hR
 have hsx1_3 := hsx1_2.ext' hR
 have s10_3 : get a3 10 = x1 := t10
 have s11_3 : get a3 11 = i64 ((items.length : Nat) : Int) := t11
 have s12_3 : get a3 12 = i64 ((items.length : Nat) : Int) := t12
 clear hE_2 hN_2 hD_2 s1_2 s2_2 s4_2 s5_2 hbb2_2 hbb4_2 hsx1_2
 refine tail_put rfl rfl hN_3 hD_3 (by decide) (does_sliceFull (T := Str) (xs := items) (k := ((items.length : Nat) : Int)) sli_22 rfl (SlT.at s10_3 hsx1_3) s11_3 s12_3 (by omega) (by omega) (fun x13a hsx13_4 => fun a4 hN_4 hD_4 hv hO => ?_))
 replace hsx13_4 : SlT Str 0 (w0.heap.size + 1) (items.take items.length) (Value.slice x13a (items.take items.length).length (items.take items.length).length) wd3 := hsx13_4
 replace hv : get a4 13 = Value.slice x13a (items.take items.length).length (items.take items.length).length := hv
 obtain ⟨x13, hfullx13⟩ : ∃ x, x = Value.slice x13a (items.take items.length).length (items.take items.length).length := ⟨_, rfl⟩
 rw [← hfullx13] at hsx13_4 hv
 have s13_4 := hv
 have s1_4 := (hO 1 rfl).trans s1_3
 have s4_4 := (hO 4 rfl).trans s4_3
 clear hO hv hN_3 hD_3 s1_3 s4_3 s10_3 s11_3 s12_3
 refine tail_put rfl rfl hN_4 hD_4 (by decide) (does_move (V := str (s)) s1_4 (fun a5 hN_5 hD_5 hv hO => ?_))
 have s14_5 := hv
 have s4_5 := (hO 4 rfl).trans s4_4
 have s13_5 := (hO 13 rfl).trans s13_4
 clear hO hv hN_4 hD_4 s1_4 s4_4 s13_4
 refine tail_put rfl rfl hN_5 hD_5 (by decide) (does_slice1 (T := Str) (X := s) (V := str (s)) app_22 rfl (by decide) s14_5 rfl (fun v wd6 he _ hp => fun a6 hN_6 hD_6 hv hO => ?_))
 have hR := he
 have hE_6 := hE_3.trans he
 have hbb2_6 := hbb2_3.ext' he
 have hbb4_6 := hbb4_3.ext' he
 have hsx1_6 := hsx1_3.ext' he
 have hsx13_6 := hsx13_4.ext' he
 obtain ⟨x15, hxe⟩ : ∃ x, v = x := ⟨_, rfl⟩
 have s15_6 := hv.trans hxe
 replace hp : OwnT Str wd3.heap.size 9 ([s]) x15 wd6 := hxe ▸ hp
 have nbo_x15_b2 : x15.ownBlock ≠ some b2 := fun e => Nat.lt_irrefl _ (Nat.lt_of_lt_of_le hbb2_3.lt (OwnT.block_lt hp e).1)
 have nbo_x15_b4 : x15.ownBlock ≠ some b4 := fun e => Nat.lt_irrefl _ (Nat.lt_of_lt_of_le hbb4_3.lt (OwnT.block_lt hp e).1)
 have hsx15_6 := hp.sl.wide (Nat.zero_le _) (.inl rfl)
 have hox15_6 := OwnT.base hp hE_3.size'
 clear hxe
 have s4_6 := (hO 4 rfl).trans s4_5
 have s13_6 := (hO 13 rfl).trans s13_5
 clear hO hv hN_5 hD_5 hE_3 hbb2_3 hbb4_3 hsx1_3 hsx13_4 s4_5 s13_5 s14_5
 refine tail_put rfl rfl hN_6 hD_6 (by decide) (does_appendG (T := Str) (base := wd6.heap.size) (xs := items.take items.length) (ys := [s]) app_22 (s13_6.trans hfullx13) (SlT.at s13_6 hsx13_6) (SlT.at s15_6 hsx15_6) (by simp) (by simp only [List.length_take, List.length_cons, List.length_nil]; omega) (by simp only [List.length_take, List.length_cons, List.length_nil]; omega) (Nat.le_refl _) (fun x16 wd7 he hox16_7 hk a7 hN_7 hD_7 hv hO => ?_))
 have hE_7 := hE_6.trans he
 have hbb2_7 := hbb2_6.ext' he
 have hbb4_7 := hbb4_6.ext' he
 have hsx1_7 := hsx1_6.ext' he
 have hsx13_7 := hsx13_6.ext' he
 have hsx15_7 := hsx15_6.ext' he
 have hox15_7 := hox15_6.ext' he
 rw [show (items.take items.length) ++ [s] = items ++ [s] from (by rw [List.take_length])] at hox16_7
 have nbo_x16_b2 : x16.ownBlock ≠ some b2 := fun e => Nat.lt_irrefl _ (Nat.lt_of_lt_of_le hbb2_6.lt (OwnT.block_lt hox16_7 e).1)
 have nbo_x16_b4 : x16.ownBlock ≠ some b4 := fun e => Nat.lt_irrefl _ (Nat.lt_of_lt_of_le hbb4_6.lt (OwnT.block_lt hox16_7 e).1)
 have no_x16_x15 : ∀ k, x16.ownBlock = some k → x15.ownBlock ≠ some k := fun k e e' => Nat.lt_irrefl _ (Nat.lt_of_lt_of_le (OwnT.block_lt hox15_6 e').2 (OwnT.block_lt hox16_7 e).1)
 have hsx16_7 := hox16_7.sl.wide (Nat.zero_le _) (.inl rfl)
 replace hox16_7 := OwnT.base hox16_7 hE_6.size'
 have s16_7 := hv
 have s4_7 := (hO 4 rfl).trans s4_6
 clear hO hv hk hN_6 hD_6 hE_6 hbb2_6 hbb4_6 hsx1_6 hsx13_6 hsx15_6 hox15_6 s4_6 s13_6 s15_6
 refine tail_put rfl rfl hN_7 hD_7 (by decide) (does_build (vs := #[(0, x16)]) (V := Value.agg #[x16]) (parts1 s16_7) (by obtain ⟨sa0, sc0, hv0, _⟩ := hsx16_7; rw [hv0]; kernel_rfl) (fun a8 hN_8 hD_8 hv hO => ?_))
 have s17_8 := hv
 have s4_8 := (hO 4 rfl).trans s4_7
 clear hO hv hN_7 hD_7 s4_7 s16_7
 refine tail_none rfl rfl (does_storeD (o := 0) (n := 1) (cs' := [x16]) (V := Value.agg #[x16]) s4_8 s17_8 hbb4_7 (Nat.le_of_ble_eq_true rfl) rfl siz_24 (one_cons (SlT.one hsx16_7) one_nil) rfl (fun wd9 hX hz hbb4_9 => ?_))
 have hE_9 := hE_7.since hX (fun k e => e ▸ fr_b4)
 have hbb2_9 := hbb2_7.ext hX ne_b2_b4
 have hsx1_9 := SlT.over hsx1_7 hX nb_x1_b4
 have hsx13_9 := SlT.over hsx13_7 hX (SlT.low hsx13_7 fr_b4)
 have hsx15_9 := SlT.over hsx15_7 hX (fun _ => nbo_x15_b4)
 have hsx16_9 := SlT.over hsx16_7 hX (fun _ => nbo_x16_b4)
 have hox15_9 := OwnT.ext hox15_7 hX (fun k hk e => nbo_x15_b4 (e ▸ hk))
 have hox16_9 := OwnT.ext hox16_7 hX (fun k hk e => nbo_x16_b4 (e ▸ hk))
 clear hX hz hE_7 hbb2_7 hbb4_7 hsx1_7 hsx13_7 hsx15_7 hsx16_7 hox15_7 hox16_7
 refine tail_nil ?_
 refine wp_ret ?_
 refine res_one (V := Value.agg #[x16]) rfl hD_8 (ResIs.cell s4_8 hbb4_9 row_24 rfl rfl) ?_
 exact ⟨⟨_, rfl, hox16_9⟩, hE_9⟩

end Go.Proofs.YtijfjpbahepegaaDoor
