/- The walks of functions of the program: printed. -/
import Derived.Test.YtijfjpbahepegaaDoorG3
import Derived.Test.YtijfjpbahepegaaDoorG6
import Derived.Test.YtijfjpbahepegaaDoorG7
import Derived.Test.YtijfjpbahepegaaDoorF0
set_option maxRecDepth 100000
namespace Go.Proofs.YtijfjpbahepegaaDoor
open Go Go.RowKit Sk Sd
theorem digests_ (items : List (List UInt8)) (x1 : Value) (w0 : World) (hL : Laid w0) (hx1 : SlT Str 0 0 items x1 w0) (hs : ∀ x ∈ items, x.length ≤ 65536) (hn : items.length ≤ 100000) :
    Gives Tryd.prog 65 #[Value.agg #[x1]] w0 (Pr.own' DG w0.heap.size 27 (items.map of)) := by
 refine enter (N := 20) Tryd.func65 rfl rfl ?_
 intro a0 hN_0 hD_0 hA
 have s0_0 : get a0 0 = Value.agg #[x1] := hA 0 _ rfl
 clear hA
 have hE_0 : Ext w0 w0 := Ext.refl w0
 have hsx1_0 := hx1.close
 refine wp_seq ?_
 refine region_lex [1] [(1, Pr.box' w0.heap.size 24 [x1]), (2, Pr.ex (Value.slice none 0 0))] 2 hN_0 hD_0 (by kernel_rfl) (by kernel_rfl) ?_ ?_
 refine Asks.cons ?_ (Asks.cons ?_ (Asks.zero _))
 refine Ask.fresh rfl rfl ?_
 intro aq wq hNq hO hR hT
 exact does_box (V := Value.agg #[x1]) ((hO 0 rfl).trans s0_0) (fun b w2 he hlo hb => ⟨he, ⟨b, rfl, Nat.le_trans hR.size' hlo, hb⟩, ⟨b, rfl, hlo, hb.lt⟩⟩)
 exact Ask.plain rfl rfl fun aq wq hNq hO hR hT => does_assign (V := Value.slice none 0 0) rfl ⟨Ext.refl _, rfl⟩
 intro a1 wd1 hN_1 hD_1 hO hR hA hU
 obtain ⟨t1, _, _⟩ := hA
 have hE_1 := hE_0.trans hR
 have hsx1_1 := hsx1_0.ext' hR
 obtain ⟨b1, s1_1, lo_b1, hbb1_1⟩ := t1
 have nb_x1_b1 := SlT.old hsx1_0 lo_b1
 have fr_b1 : w0.heap.size ≤ b1 := Nat.le_trans hE_0.size' lo_b1
 clear hE_0 hN_0 hD_0 s0_0 hsx1_0
 refine tail_nil ?_
 refine wp_seq ?_
 refine region_lex [] [(3, Pr.ex (Value.slice none 0 0))] 1 hN_1 hD_1 (by kernel_rfl) (by kernel_rfl) ?_ ?_
 refine Asks.cons ?_ (Asks.zero _)
 exact Ask.plain rfl rfl fun aq wq hNq hO hR hT => does_assign (V := Value.slice none 0 0) rfl ⟨Ext.refl _, rfl⟩
 intro a2 wd2 hN_2 hD_2 hO hR hA hU
 obtain ⟨t3, _⟩ := hA
 have hE_2 := hE_1.trans hR
 have s1_2 := (hO 1 rfl).trans s1_1
 have hbb1_2 := hbb1_1.ext' hR
 have hsx1_2 := hsx1_1.ext' hR
 have s3_2 : get a2 3 = Value.slice none 0 0 := t3
 clear hE_1 hN_1 hD_1 s1_1 hbb1_1 hsx1_1
 refine tail_nil ?_
 refine wp_seq ?_
 refine wp_seq ?_
 refine region_lex [] [(6, Pr.ex (Value.pointer (some ⟨b1, 0, none⟩))), (7, Pr.ex (x1)), (8, Pr.ex (i64 ((items.length : Nat) : Int))), (9, Pr.ex (i64 ((0 : Nat) : Int)))] 4 hN_2 hD_2 (by kernel_rfl) (by kernel_rfl) ?_ ?_
 refine Asks.cons ?_ (Asks.cons ?_ (Asks.cons ?_ (Asks.cons ?_ (Asks.zero _))))
 exact Ask.plain rfl rfl fun aq wq hNq hO hR hT => does_field (o' := 0) fld_24_0 ((hO 1 rfl).trans s1_2) rfl ⟨Ext.refl _, rfl⟩
 exact Ask.plain rfl rfl fun aq wq hNq hO hR hT => does_loadD1 (o := 0) (V := x1) (hT 6 rfl rfl) (hbb1_2.ext' hR) rfl one_22 ⟨Ext.refl _, rfl⟩
 exact Ask.plain rfl rfl fun aq wq hNq hO hR hT => does_len (T := Str) (xs := items) sli_22 (SlT.at (hT 7 rfl rfl) (hsx1_2.ext' hR)) ⟨Ext.refl _, rfl⟩
 exact Ask.plain rfl rfl fun aq wq hNq hO hR hT => does_move (V := i64 ((0 : Nat) : Int)) rfl ⟨Ext.refl _, rfl⟩
 intro a3 wd3 hN_3 hD_3 hO hR hA hU
 obtain ⟨_, t7, t8, t9, _⟩ := hA
 have hE_3 := hE_2.trans hR
 have s3_3 := (hO 3 rfl).trans s3_2
 have hbb1_3 := hbb1_2.ext' hR
 have hsx1_3 := hsx1_2.ext' hR
 have s7_3 : get a3 7 = x1 := t7
 have s8_3 : get a3 8 = i64 ((items.length : Nat) : Int) := t8
 have s9_3 : get a3 9 = i64 ((0 : Nat) : Int) := t9
 clear hE_2 hN_2 hD_2 s1_2 s3_2 hbb1_2 hsx1_2
 refine tail_nil ?_
 refine wp_block ?_
 refine loop_g (fun mz az wz => ∃ k : Nat, ∃ xo : Value, mz = items.length - k ∧ (az.tmps.size = 20) ∧ (az.defers = []) ∧ (get az 3 = xo) ∧ (get az 7 = x1) ∧ (get az 8 = i64 ((items.length : Nat) : Int)) ∧ (get az 9 = i64 ((k : Nat) : Int)) ∧ (Ext w0 wz) ∧ (Has wz b1 24 [x1]) ∧ (SlT Str 0 (w0.heap.size + 1) (items) x1 wz) ∧ (OwnT DG w0.heap.size 27 ((items.take k).map of) xo wz) ∧ (xo.ownBlock ≠ some b1) ∧ (k ≤ items.length)) ?_ ?_
 exact ⟨_, 0, (Value.slice none 0 0), rfl, hN_3, hD_3, s3_3, s7_3, s8_3, s9_3, hE_3, hbb1_3, hsx1_3, (OwnT.nil DG w0.heap.size 27 _), (by intro e; cases e), Nat.zero_le _⟩
 rintro mz a4 wd4 ⟨k, xo, rfl, hN_4, hD_4, s3_4, s7_4, s8_4, s9_4, hE_4, hbb1_4, hsx1_4, hoxo_4, nbo_xo_b1, hk⟩
 have hsxo_4 := hoxo_4.sl.wide (Nat.zero_le _) (.inl rfl)
 refine wp_seq ?_
 refine region_lex [] [(10, Pr.ex (Value.bool (decide (((k : Nat) : Int) < ((items.length : Nat) : Int)))))] 1 hN_4 hD_4 (by kernel_rfl) (by kernel_rfl) ?_ ?_
 refine Asks.cons ?_ (Asks.zero _)
 exact Ask.plain rfl rfl fun aq wq hNq hO hR hT => does_lss (a := ((k : Nat) : Int)) (b := ((items.length : Nat) : Int)) ((hO 9 rfl).trans s9_4) ((hO 8 rfl).trans s8_4) ⟨Ext.refl _, rfl⟩
 intro a5 wd5 hN_5 hD_5 hO hR hA hU
 obtain ⟨t10, _⟩ := hA
 have hE_5 := hE_4.trans hR
 have s3_5 := (hO 3 rfl).trans s3_4
 have s7_5 := (hO 7 rfl).trans s7_4
 have s8_5 := (hO 8 rfl).trans s8_4
 have s9_5 := (hO 9 rfl).trans s9_4
 have hbb1_5 := hbb1_4.ext' hR
 have hsx1_5 := hsx1_4.ext' hR
 have hsxo_5 := hsxo_4.ext' hR
 have hoxo_5 := hoxo_4.ext' hR
 have s10_5 : get a5 10 = Value.bool (decide (((k : Nat) : Int) < ((items.length : Nat) : Int))) := t10
 clear hE_4 hN_4 hD_4 s3_4 s7_4 s8_4 s9_4 hbb1_4 hsx1_4 hsxo_4 hoxo_4
 refine tail_nil ?_
 refine wp_seq ?_
 refine wp_if (B := decide (((k : Nat) : Int) < ((items.length : Nat) : Int))) s10_5 (fun hc0 => ?_) (fun hc0 => ?_)
 have hc0 := of_decide_eq_true hc0
 obtain ⟨x, hx⟩ := get_of_lt (l := items) (k := k) (by omega)
 refine wp_skip ?_
 refine wp_seq ?_
 refine wp_block ?_
 refine wp_seq ?_
 refine region_lex [] [(11, Pr.pt' 0 (w0.heap.size + 1) [str (x)]), (12, Pr.ex (str (x))), (5, Pr.ex (str (x)))] 3 hN_5 hD_5 (by kernel_rfl) (by kernel_rfl) ?_ ?_
 refine Asks.cons ?_ (Asks.cons ?_ (Asks.cons ?_ (Asks.zero _)))
 exact Ask.plain rfl rfl fun aq wq hNq hO hR hT => does_indexSl (T := Str) (xs := items) (i := ((k : Nat) : Int)) (X := x) sli_22 rfl (SlT.at ((hO 7 rfl).trans s7_5) (hsx1_5.ext' hR)) ((hO 9 rfl).trans s9_5) (by omega) hx (fun v h => ⟨Ext.refl _, h⟩)
 exact Ask.plain rfl rfl fun aq wq hNq hO hR hT => does_loadP1 (V := str (x)) (hT 11 rfl rfl) one_9 ⟨Ext.refl _, rfl⟩
 exact Ask.plain rfl rfl fun aq wq hNq hO hR hT => does_assign (V := str (x)) (hT 12 rfl rfl) ⟨Ext.refl _, rfl⟩
 intro a6 wd6 hN_6 hD_6 hO hR hA hU
 obtain ⟨_, _, t5, _⟩ := hA
 have hE_6 := hE_5.trans hR
 have s3_6 := (hO 3 rfl).trans s3_5
 have s7_6 := (hO 7 rfl).trans s7_5
 have s8_6 := (hO 8 rfl).trans s8_5
 have s9_6 := (hO 9 rfl).trans s9_5
 have hbb1_6 := hbb1_5.ext' hR
 have hsx1_6 := hsx1_5.ext' hR
 have hsxo_6 := hsxo_5.ext' hR
 have hoxo_6 := hoxo_5.ext' hR
 have s5_6 : get a6 5 = str (x) := t5
 clear hE_5 hN_5 hD_5 s3_5 s7_5 s8_5 s9_5 s10_5 hbb1_5 hsx1_5 hsxo_5 hoxo_5
 refine tail_nil ?_
 refine region_lex [] [(13, Pr.ex (xo)), (14, Pr.ex (str (x))), (15, Pr.ex (Dg.val (of x))), (16, Pr.own' DG wd6.heap.size 27 ([of x]))] 4 hN_6 hD_6 (by kernel_rfl) (by kernel_rfl) ?_ ?_
 refine Asks.cons ?_ (Asks.cons ?_ (Asks.cons ?_ (Asks.cons ?_ (Asks.zero _))))
 exact Ask.plain rfl rfl fun aq wq hNq hO hR hT => does_move (V := xo) ((hO 3 rfl).trans s3_6) ⟨Ext.refl _, rfl⟩
 exact Ask.plain rfl rfl fun aq wq hNq hO hR hT => does_move (V := str (x)) ((hO 5 rfl).trans s5_6) ⟨Ext.refl _, rfl⟩
 exact Ask.plain rfl rfl fun aq wq hNq hO hR hT => does_ret (vs := #[str (x)]) call_42 (args1 (hT 14 rfl rfl)) rfl ((of_ (x) wq (hL.ext (hE_6.trans hR)) (hs x (mem_get hx))).mono fun v w2 h => ⟨h.2, h.1⟩)
 exact Ask.plain rfl rfl fun aq wq hNq hO hR hT => does_slice1 (T := DG) (X := of x) (V := Dg.val (of x)) app_41 rfl (by decide) (hT 15 rfl rfl) rfl (fun v w2 he _ ho => ⟨he, OwnT.base ho hR.size'⟩)
 intro a7 wd7 hN_7 hD_7 hO hR hA hU
 obtain ⟨t13, _, _, t16, _⟩ := hA
 have hE_7 := hE_6.trans hR
 have s3_7 := (hO 3 rfl).trans s3_6
 have s7_7 := (hO 7 rfl).trans s7_6
 have s8_7 := (hO 8 rfl).trans s8_6
 have s9_7 := (hO 9 rfl).trans s9_6
 have hbb1_7 := hbb1_6.ext' hR
 have hsx1_7 := hsx1_6.ext' hR
 have hsxo_7 := hsxo_6.ext' hR
 have hoxo_7 := hoxo_6.ext' hR
 have s13_7 : get a7 13 = xo := t13
 obtain ⟨x16, s16_7⟩ : ∃ x, get a7 16 = x := ⟨_, rfl⟩
 replace t16 : OwnT DG wd6.heap.size 27 ([of x]) x16 wd7 := by rw [← s16_7]; exact t16
 have nbo_x16_b1 : x16.ownBlock ≠ some b1 := fun e => Nat.lt_irrefl _ (Nat.lt_of_lt_of_le hbb1_6.lt (OwnT.block_lt t16 e).1)
 have no_x16_xo : ∀ k, x16.ownBlock = some k → xo.ownBlock ≠ some k := fun k e e' => Nat.lt_irrefl _ (Nat.lt_of_lt_of_le (OwnT.block_lt hoxo_6 e').2 (OwnT.block_lt t16 e).1)
 have hsx16_7 := t16.sl.wide (Nat.zero_le _) (.inl rfl)
 have hox16_7 := OwnT.base t16 hE_6.size'
 clear hE_6 hN_6 hD_6 s3_6 s5_6 s7_6 s8_6 s9_6 hbb1_6 hsx1_6 hsxo_6 hoxo_6
 refine tail_put rfl rfl hN_7 hD_7 (by decide) (does_append (T := DG) (base := w0.heap.size) (xs := (items.take k).map of) (ys := [of x]) (v := xo) app_41 s13_7 hoxo_7 (SlT.at s16_7 hsx16_7) (by simp) (by simp only [List.length_map, List.length_take, List.length_cons, List.length_nil]; omega) (by simp only [List.length_map, List.length_take, List.length_cons, List.length_nil]; omega) hE_7.size' (fun x17 wd8 hX hox17_8 hk a8 hN_8 hD_8 hv hO => ?_))
 have hE_8 := hE_7.since hX (fun b hb => Nat.le_trans (Nat.le_refl _) (OwnT.block_lt hoxo_7 hb).1)
 have hbb1_8 := hbb1_7.ext hX nbo_xo_b1
 have nbo_x17_b1 : x17.ownBlock ≠ some b1 := fun e => (hk _ e).elim nbo_xo_b1 (fun h => Nat.lt_irrefl _ (Nat.lt_of_lt_of_le hbb1_7.lt h))
 have hsx1_8 := SlT.overOwn hsx1_7 hoxo_7 hX
 have hox16_8 := OwnT.ext hox16_7 hX (fun k hk e => no_x16_xo k hk e)
 have no_x17_x16 : ∀ k, x17.ownBlock = some k → x16.ownBlock ≠ some k := fun k e e' => (hk k e).elim (fun h => no_x16_xo k e' h) (fun h => Nat.lt_irrefl _ (Nat.lt_of_lt_of_le (OwnT.block_lt hox16_7 e').2 h))
 have hsx16_8 := hox16_8.sl.wide (Nat.zero_le _) (.inl rfl)
 have hsx17_8 := hox17_8.sl.wide (Nat.zero_le _) (.inl rfl)
 rw [map_step of hx] at hox17_8 hsx17_8
 have s17_8 := hv
 have s3_8 := (hO 3 rfl).trans s3_7
 have s7_8 := (hO 7 rfl).trans s7_7
 have s8_8 := (hO 8 rfl).trans s8_7
 have s9_8 := (hO 9 rfl).trans s9_7
 clear hO hv hX hk hN_7 hD_7 hE_7 hbb1_7 hsx1_7 hox16_7 s3_7 s7_7 s8_7 s9_7 s13_7 s16_7
 refine tail_put rfl rfl hN_8 hD_8 (by decide) (does_assign (V := x17) s17_8 (fun a9 hN_9 hD_9 hv hO => ?_))
 have s3_9 := hv
 have s7_9 := (hO 7 rfl).trans s7_8
 have s8_9 := (hO 8 rfl).trans s8_8
 have s9_9 := (hO 9 rfl).trans s9_8
 clear hO hv hN_8 hD_8 s7_8 s8_8 s9_8 s17_8 s3_8
 refine tail_nil ?_
 refine region_lex [] [(18, Pr.ex (i64 ((k + 1 : Nat) : Int)))] 1 hN_9 hD_9 (by kernel_rfl) (by kernel_rfl) ?_ ?_
 refine Asks.cons ?_ (Asks.zero _)
 exact Ask.plain rfl rfl fun aq wq hNq hO hR hT => does_add (a := ((k : Nat) : Int)) (b := ((1 : Nat) : Int)) (r := ((k + 1 : Nat) : Int)) ((hO 9 rfl).trans s9_9) rfl (by omega) (by omega) (by omega) ⟨Ext.refl _, rfl⟩
 intro a10 wd10 hN_10 hD_10 hO hR hA hU
 obtain ⟨t18, _⟩ := hA
 have hE_10 := hE_8.trans hR
 have s3_10 := (hO 3 rfl).trans s3_9
 have s7_10 := (hO 7 rfl).trans s7_9
 have s8_10 := (hO 8 rfl).trans s8_9
 have s9_10 := (hO 9 rfl).trans s9_9
 have hbb1_10 := hbb1_8.ext' hR
 have hsx1_10 := hsx1_8.ext' hR
 have hsx16_10 := hsx16_8.ext' hR
 have hsx17_10 := hsx17_8.ext' hR
 have hox16_10 := hox16_8.ext' hR
 have hox17_10 := hox17_8.ext' hR
 have s18_10 : get a10 18 = i64 ((k + 1 : Nat) : Int) := t18
 clear hE_8 hN_9 hD_9 s3_9 s7_9 s8_9 s9_9 hbb1_8 hsx1_8 hsx16_8 hsx17_8 hox16_8 hox17_8
 refine tail_put rfl rfl hN_10 hD_10 (by decide) (does_move (V := i64 ((k + 1 : Nat) : Int)) s18_10 (fun a11 hN_11 hD_11 hv hO => ?_))
 have s9_11 := hv
 have s3_11 := (hO 3 rfl).trans s3_10
 have s7_11 := (hO 7 rfl).trans s7_10
 have s8_11 := (hO 8 rfl).trans s8_10
 clear hO hv hN_10 hD_10 s3_10 s7_10 s8_10 s18_10 s9_10
 refine tail_nil ?_
 exact ⟨_, by omega, k + 1, x17, rfl, hN_11, hD_11, s3_11, s7_11, s8_11, s9_11, hE_10, hbb1_10, hsx1_10, hox17_10, nbo_x17_b1, by omega⟩
 have hc0 := of_decide_eq_false hc0
 have hk2 : (items.take k).map of = items.map of := by rw [List.take_of_length_le (by omega)]
 refine wp_exit ?_
 refine wp_seq ?_
 refine region_lex [] [(19, Pr.ex (xo)), (2, Pr.ex (xo))] 2 hN_5 hD_5 (by kernel_rfl) (by kernel_rfl) ?_ ?_
 refine Asks.cons ?_ (Asks.cons ?_ (Asks.zero _))
 exact Ask.plain rfl rfl fun aq wq hNq hO hR hT => does_move (V := xo) ((hO 3 rfl).trans s3_5) ⟨Ext.refl _, rfl⟩
 exact Ask.plain rfl rfl fun aq wq hNq hO hR hT => does_assign (V := xo) (hT 19 rfl rfl) ⟨Ext.refl _, rfl⟩
 intro a12 wd12 hN_12 hD_12 hO hR hA hU
 obtain ⟨_, t2, _⟩ := hA
 have hE_12 := hE_5.trans hR
 have hbb1_12 := hbb1_5.ext' hR
 have hsx1_12 := hsx1_5.ext' hR
 have hsxo_12 := hsxo_5.ext' hR
 have hoxo_12 := hoxo_5.ext' hR
 have s2_12 : get a12 2 = xo := t2
 clear hE_5 hN_5 hD_5 s3_5 s7_5 s8_5 s9_5 s10_5 hbb1_5 hsx1_5 hsxo_5 hoxo_5
 refine tail_nil ?_
 refine wp_ret ?_
 refine res_one (V := xo) rfl hD_12 s2_12 ?_
 have ho := hoxo_12
 rw [hk2] at ho
 exact ⟨ho, hE_12⟩

theorem sroot (items : List (List UInt8)) (x1 : Value) (w0 : World) (hL : Laid w0) (hx1 : SlT Str 0 0 items x1 w0) (hs : ∀ x ∈ items, x.length ≤ 65536) (hn : items.length ≤ 100000) :
    Gives Tryd.prog 45 #[Value.agg #[x1]] w0 (Pr.ex (Dg.val (root (items.map of)))) := by
 refine enter (N := 6) Tryd.func45 rfl rfl ?_
 intro a0 hN_0 hD_0 hA
 have s0_0 : get a0 0 = Value.agg #[x1] := hA 0 _ rfl
 clear hA
 have hE_0 : Ext w0 w0 := Ext.refl w0
 have hsx1_0 := hx1.close
 refine wp_seq ?_
 refine region_lex [1, 2] [(1, Pr.box' w0.heap.size 24 [x1]), (2, Pr.box' w0.heap.size 27 [w32 (Dg.zero).a, w32 (Dg.zero).b, w32 (Dg.zero).c, w32 (Dg.zero).d])] 2 hN_0 hD_0 (by kernel_rfl) (by kernel_rfl) ?_ ?_
 refine Asks.cons ?_ (Asks.cons ?_ (Asks.zero _))
 refine Ask.fresh rfl rfl ?_
 intro aq wq hNq hO hR hT
 exact does_box (V := Value.agg #[x1]) ((hO 0 rfl).trans s0_0) (fun b w2 he hlo hb => ⟨he, ⟨b, rfl, Nat.le_trans hR.size' hlo, hb⟩, ⟨b, rfl, hlo, hb.lt⟩⟩)
 refine Ask.fresh rfl rfl ?_
 intro aq wq hNq hO hR hT
 exact does_alloc zero_27 (fun b w2 he hlo hb => ⟨he, ⟨b, rfl, Nat.le_trans hR.size' hlo, hb⟩, ⟨b, rfl, hlo, hb.lt⟩⟩)
 intro a1 wd1 hN_1 hD_1 hO hR hA hU
 obtain ⟨t1, t2, _⟩ := hA
 have hE_1 := hE_0.trans hR
 have hsx1_1 := hsx1_0.ext' hR
 obtain ⟨b1, s1_1, lo_b1, hbb1_1⟩ := t1
 have nb_x1_b1 := SlT.old hsx1_0 lo_b1
 have fr_b1 : w0.heap.size ≤ b1 := Nat.le_trans hE_0.size' lo_b1
 obtain ⟨b2, s2_1, lo_b2, hbb2_1⟩ := t2
 have nb_x1_b2 := SlT.old hsx1_0 lo_b2
 have fr_b2 : w0.heap.size ≤ b2 := Nat.le_trans hE_0.size' lo_b2
 obtain ⟨u0, ⟨u1, _⟩⟩ := hU
 have ne_b1_b2 : b1 ≠ b2 := fun e => u0 2 (by decide) (by rw [s1_1, s2_1, e])
 clear hE_0 hN_0 hD_0 s0_0 hsx1_0
 refine tail_nil ?_
 refine wp_seq ?_
 refine region_lex [] [(3, Pr.ex (Value.agg #[x1])), (4, Pr.own' DG wd1.heap.size 27 (items.map of)), (5, Pr.ex (Dg.val (root (items.map of))))] 3 hN_1 hD_1 (by kernel_rfl) (by kernel_rfl) ?_ ?_
 refine Asks.cons ?_ (Asks.cons ?_ (Asks.cons ?_ (Asks.zero _)))
 exact Ask.plain rfl rfl fun aq wq hNq hO hR hT => does_loadD (o := 0) (n := 1) (mid := [x1]) ((hO 1 rfl).trans s1_1) (hbb1_1.ext' hR) rfl rfl (Nat.le_of_ble_eq_true rfl) row_24 rfl ⟨Ext.refl _, rfl⟩
 exact Ask.plain rfl rfl fun aq wq hNq hO hR hT => does_ret (vs := #[Value.agg #[x1]]) call_65 (args1 (hT 3 rfl rfl)) rfl ((digests_ (items) (x1) wq (hL.ext (hE_1.trans hR)) ((hsx1_1.ext' hR).wide (Nat.zero_le _) (.inl rfl)) hs hn).mono fun v w2 h => ⟨h.2, OwnT.base h.1 hR.size'⟩)
 exact Ask.plain rfl rfl fun aq wq hNq hO hR hT => does_ret (vs := #[get aq 4]) call_37 (args1 rfl) rfl ((root_ (items.map of) (get aq 4) wq (hL.ext (hE_1.trans hR)) (((OwnT.sl (hT 4 rfl rfl)).wide (Nat.zero_le _) (.inl rfl)).wide (Nat.zero_le _) (.inl rfl)) (by simpa using hn)).mono fun v w2 h => ⟨h.2, h.1⟩)
 intro a2 wd2 hN_2 hD_2 hO hR hA hU
 obtain ⟨_, _, t5, _⟩ := hA
 have hE_2 := hE_1.trans hR
 have s2_2 := (hO 2 rfl).trans s2_1
 have hbb1_2 := hbb1_1.ext' hR
 have hbb2_2 := hbb2_1.ext' hR
 have hsx1_2 := hsx1_1.ext' hR
 have s5_2 : get a2 5 = Dg.val (root (items.map of)) := t5
 clear hE_1 hN_1 hD_1 s1_1 s2_1 hbb1_1 hbb2_1 hsx1_1
 refine tail_none rfl rfl (does_storeD (o := 0) (n := 4) (cs' := [w32 (root (items.map of)).a, w32 (root (items.map of)).b, w32 (root (items.map of)).c, w32 (root (items.map of)).d]) (V := Dg.val (root (items.map of))) s2_2 s5_2 hbb2_2 (Nat.le_of_ble_eq_true rfl) rfl siz_27 rfl rfl (fun wd3 hX hz hbb2_3 => ?_))
 have hE_3 := hE_2.since hX (fun k e => e ▸ fr_b2)
 have hbb1_3 := hbb1_2.ext hX ne_b1_b2
 have hsx1_3 := SlT.over hsx1_2 hX nb_x1_b2
 clear hX hz hE_2 hbb1_2 hbb2_2 hsx1_2
 refine tail_nil ?_
 refine wp_ret ?_
 refine res_one (V := Dg.val (root (items.map of))) rfl hD_2 (ResIs.cell s2_2 hbb2_3 row_27 rfl rfl) ?_
 exact ⟨rfl, hE_3⟩

theorem shead (items : List (List UInt8)) (x1 : Value) (w0 : World) (hL : Laid w0) (hx1 : SlT Str 0 0 items x1 w0) (hs : ∀ x ∈ items, x.length ≤ 65536) (hn : items.length ≤ 100000) :
    Gives Tryd.prog 18 #[Value.agg #[x1]] w0 (Pr.ex (Head.val ⟨(items.length : Int), root (items.map of)⟩)) := by
 refine enter (N := 9) Tryd.func18 rfl rfl ?_
 intro a0 hN_0 hD_0 hA
 have s0_0 : get a0 0 = Value.agg #[x1] := hA 0 _ rfl
 clear hA
 have hE_0 : Ext w0 w0 := Ext.refl w0
 have hsx1_0 := hx1.close
 refine wp_seq ?_
 refine region_lex [1, 2] [(1, Pr.box' w0.heap.size 24 [x1]), (2, Pr.box' w0.heap.size 29 [i64 ((0 : Nat) : Int), w32 (Dg.zero).a, w32 (Dg.zero).b, w32 (Dg.zero).c, w32 (Dg.zero).d])] 2 hN_0 hD_0 (by kernel_rfl) (by kernel_rfl) ?_ ?_
 refine Asks.cons ?_ (Asks.cons ?_ (Asks.zero _))
 refine Ask.fresh rfl rfl ?_
 intro aq wq hNq hO hR hT
 exact does_box (V := Value.agg #[x1]) ((hO 0 rfl).trans s0_0) (fun b w2 he hlo hb => ⟨he, ⟨b, rfl, Nat.le_trans hR.size' hlo, hb⟩, ⟨b, rfl, hlo, hb.lt⟩⟩)
 refine Ask.fresh rfl rfl ?_
 intro aq wq hNq hO hR hT
 exact does_alloc zero_29 (fun b w2 he hlo hb => ⟨he, ⟨b, rfl, Nat.le_trans hR.size' hlo, hb⟩, ⟨b, rfl, hlo, hb.lt⟩⟩)
 intro a1 wd1 hN_1 hD_1 hO hR hA hU
 obtain ⟨t1, t2, _⟩ := hA
 have hE_1 := hE_0.trans hR
 have hsx1_1 := hsx1_0.ext' hR
 obtain ⟨b1, s1_1, lo_b1, hbb1_1⟩ := t1
 have nb_x1_b1 := SlT.old hsx1_0 lo_b1
 have fr_b1 : w0.heap.size ≤ b1 := Nat.le_trans hE_0.size' lo_b1
 obtain ⟨b2, s2_1, lo_b2, hbb2_1⟩ := t2
 have nb_x1_b2 := SlT.old hsx1_0 lo_b2
 have fr_b2 : w0.heap.size ≤ b2 := Nat.le_trans hE_0.size' lo_b2
 obtain ⟨u0, ⟨u1, _⟩⟩ := hU
 have ne_b1_b2 : b1 ≠ b2 := fun e => u0 2 (by decide) (by rw [s1_1, s2_1, e])
 clear hE_0 hN_0 hD_0 s0_0 hsx1_0
 refine tail_nil ?_
 refine wp_seq ?_
 refine region_any [] [(3, Pr.ex (Value.pointer (some ⟨b1, 0, none⟩))), (4, Pr.ex (x1)), (5, Pr.ex (i64 ((items.length : Nat) : Int))), (6, Pr.ex (Value.agg #[x1])), (7, Pr.ex (Dg.val (root (items.map of)))), (8, Pr.ex (Value.agg #[i64 ((items.length : Nat) : Int), w32 (root (items.map of)).a, w32 (root (items.map of)).b, w32 (root (items.map of)).c, w32 (root (items.map of)).d]))] 6 mixed hN_1 hD_1 (by kernel_rfl) (by kernel_rfl) (by kernel_rfl) ?_ ?_
 refine Asks.cons ?_ (Asks.cons ?_ (Asks.cons ?_ (Asks.cons ?_ (Asks.cons ?_ (Asks.cons ?_ (Asks.zero _))))))
 exact Ask.plainD rfl rfl fun aq wq hNq hO hR hT => does_field (o' := 0) fld_24_0 ((hO 1 rfl).trans s1_1) rfl ⟨Ext.refl _, rfl⟩
 exact Ask.plainD rfl rfl fun aq wq hNq hO hR hT => does_loadD1 (o := 0) (V := x1) (hT 3 rfl rfl) (hbb1_1.ext' hR) rfl one_22 ⟨Ext.refl _, rfl⟩
 exact Ask.plainD rfl rfl fun aq wq hNq hO hR hT => does_len (T := Str) (xs := items) sli_22 (SlT.at (hT 4 rfl rfl) (hsx1_1.ext' hR)) ⟨Ext.refl _, rfl⟩
 exact Ask.plainD rfl rfl fun aq wq hNq hO hR hT => does_loadD (o := 0) (n := 1) (mid := [x1]) ((hO 1 rfl).trans s1_1) (hbb1_1.ext' hR) rfl rfl (Nat.le_of_ble_eq_true rfl) row_24 rfl ⟨Ext.refl _, rfl⟩
 exact Ask.plainD rfl rfl fun aq wq hNq hO hR hT => does_ret (vs := #[Value.agg #[x1]]) call_45 (args1 (hT 6 rfl rfl)) rfl ((sroot (items) (x1) wq (hL.ext (hE_1.trans hR)) ((hsx1_1.ext' hR).wide (Nat.zero_le _) (.inl rfl)) hs hn).mono fun v w2 h => ⟨h.2, h.1⟩)
 exact Ask.plainD rfl rfl fun aq wq hNq hO hR hT => does_build (vs := #[(0, i64 ((items.length : Nat) : Int)), (1, Dg.val (root (items.map of)))]) (V := Value.agg #[i64 ((items.length : Nat) : Int), w32 (root (items.map of)).a, w32 (root (items.map of)).b, w32 (root (items.map of)).c, w32 (root (items.map of)).d]) (parts2 (hT 5 rfl rfl) (hT 7 rfl rfl)) (by kernel_rfl) ⟨Ext.refl _, rfl⟩
 intro a2 wd2 hN_2 hD_2 hO hR hA hU
 obtain ⟨_, _, _, _, _, t8, _⟩ := hA
 have hE_2 := hE_1.trans hR
 have s2_2 := (hO 2 rfl).trans s2_1
 have hbb1_2 := hbb1_1.ext' hR
 have hbb2_2 := hbb2_1.ext' hR
 have hsx1_2 := hsx1_1.ext' hR
 have s8_2 : get a2 8 = Value.agg #[i64 ((items.length : Nat) : Int), w32 (root (items.map of)).a, w32 (root (items.map of)).b, w32 (root (items.map of)).c, w32 (root (items.map of)).d] := t8
 clear hE_1 hN_1 hD_1 s1_1 s2_1 hbb1_1 hbb2_1 hsx1_1
 refine tail_none rfl rfl (does_storeD (o := 0) (n := 5) (cs' := [i64 ((items.length : Nat) : Int), w32 (root (items.map of)).a, w32 (root (items.map of)).b, w32 (root (items.map of)).c, w32 (root (items.map of)).d]) (V := Value.agg #[i64 ((items.length : Nat) : Int), w32 (root (items.map of)).a, w32 (root (items.map of)).b, w32 (root (items.map of)).c, w32 (root (items.map of)).d]) s2_2 s8_2 hbb2_2 (Nat.le_of_ble_eq_true rfl) rfl siz_29 rfl rfl (fun wd3 hX hz hbb2_3 => ?_))
 have hE_3 := hE_2.since hX (fun k e => e ▸ fr_b2)
 have hbb1_3 := hbb1_2.ext hX ne_b1_b2
 have hsx1_3 := SlT.over hsx1_2 hX nb_x1_b2
 clear hX hz hE_2 hbb1_2 hbb2_2 hsx1_2
 refine tail_nil ?_
 refine wp_ret ?_
 refine res_one (V := Value.agg #[i64 ((items.length : Nat) : Int), w32 (root (items.map of)).a, w32 (root (items.map of)).b, w32 (root (items.map of)).c, w32 (root (items.map of)).d]) rfl hD_2 (ResIs.cell s2_2 hbb2_3 row_29 rfl rfl) ?_
 exact ⟨rfl, hE_3⟩

end Go.Proofs.YtijfjpbahepegaaDoor
