/- The walks of functions of the program: printed. -/
import Derived.Test.YtijfjpbahepegaaDoorKB
import Derived.Test.YtijfjpbahepegaaDoorG3
import Derived.Test.YtijfjpbahepegaaDoorG6
import Derived.Test.YtijfjpbahepegaaDoorF0
set_option maxRecDepth 100000
namespace Go.Proofs.YtijfjpbahepegaaDoor
open Go Go.RowKit Sk Sd
theorem texts_ (items : List (List UInt8)) (x1 : Value) (w0 : World) (hx1 : SlT Str 0 0 items x1 w0) :
    Gives Tryd.prog 34 #[x1] w0 (Pr.ex (Value.bool (few items 12 300))) := by
 refine enter (N := 23) Tryd.func34 rfl rfl ?_
 intro a0 hN_0 hD_0 hA
 have s0_0 : get a0 0 = x1 := hA 0 _ rfl
 clear hA
 have hE_0 : Ext w0 w0 := Ext.refl w0
 have hsx1_0 := hx1.close
 refine wp_seq ?_
 refine region_lex [] [(2, Pr.ex (Value.bool (false)))] 1 hN_0 hD_0 (by kernel_rfl) (by kernel_rfl) ?_ ?_
 refine Asks.cons ?_ (Asks.zero _)
 exact Ask.plain rfl rfl fun aq wq hNq hO hR hT => does_assign (V := Value.bool (false)) rfl ⟨Ext.refl _, rfl⟩
 intro a1 wd1 hN_1 hD_1 hO hR hA hU
 obtain ⟨_, _⟩ := hA
 have hE_1 := hE_0.trans hR
 have s0_1 := (hO 0 rfl).trans s0_0
 have hsx1_1 := hsx1_0.ext' hR
 clear hE_0 hN_0 hD_0 s0_0 hsx1_0
 refine tail_nil ?_
 refine wp_seq ?_
 refine wp_seq ?_
 refine region_lex [] [(3, Pr.ex (i64 ((0 : Nat) : Int)))] 1 hN_1 hD_1 (by kernel_rfl) (by kernel_rfl) ?_ ?_
 refine Asks.cons ?_ (Asks.zero _)
 exact Ask.plain rfl rfl fun aq wq hNq hO hR hT => does_assign (V := i64 ((0 : Nat) : Int)) rfl ⟨Ext.refl _, rfl⟩
 intro a2 wd2 hN_2 hD_2 hO hR hA hU
 obtain ⟨t3, _⟩ := hA
 have hE_2 := hE_1.trans hR
 have s0_2 := (hO 0 rfl).trans s0_1
 have hsx1_2 := hsx1_1.ext' hR
 have s3_2 : get a2 3 = i64 ((0 : Nat) : Int) := t3
 clear hE_1 hN_1 hD_1 s0_1 hsx1_1
 refine tail_nil ?_
 refine wp_block ?_
 refine loop_g (fun mz az wz => ∃ k : Nat, mz = items.length - k ∧ (az.tmps.size = 23) ∧ (az.defers = []) ∧ (get az 0 = x1) ∧ (get az 3 = i64 ((k : Nat) : Int)) ∧ (Ext w0 wz) ∧ (SlT Str 0 (w0.heap.size + 1) (items) x1 wz) ∧ (∀ j x, j < k → items[j]? = some x → x.length ≤ 300) ∧ (k ≤ items.length)) ?_ ?_
 exact ⟨_, 0, rfl, hN_2, hD_2, s0_2, s3_2, hE_2, hsx1_2, fun j x hj => absurd hj (Nat.not_lt_zero _), Nat.zero_le _⟩
 rintro mz a3 wd3 ⟨k, rfl, hN_3, hD_3, s0_3, s3_3, hE_3, hsx1_3, hall, hkl⟩
 refine wp_seq ?_
 refine wp_seq ?_
 refine region_lex [] [(4, Pr.ex (i64 ((k : Nat) : Int))), (5, Pr.ex (x1)), (6, Pr.ex (i64 ((items.length : Nat) : Int))), (7, Pr.ex (Value.bool (decide (((k : Nat) : Int) < ((items.length : Nat) : Int))))), (8, Pr.ex (Value.bool (decide (((k : Nat) : Int) < ((items.length : Nat) : Int))))), (9, Pr.ifb (decide (((k : Nat) : Int) < ((items.length : Nat) : Int))) (Pr.ex (i64 ((k : Nat) : Int)))), (10, Pr.ifb (decide (((k : Nat) : Int) < ((items.length : Nat) : Int))) (Pr.ex (Value.bool (decide (((k : Nat) : Int) < ((13 : Nat) : Int)))))), (11, Pr.ex (Value.bool ((decide (((k : Nat) : Int) < ((items.length : Nat) : Int))) && (decide (((k : Nat) : Int) < ((13 : Nat) : Int))))))] 8 hN_3 hD_3 (by kernel_rfl) (by kernel_rfl) ?_ ?_
 refine Asks.cons ?_ (Asks.cons ?_ (Asks.cons ?_ (Asks.cons ?_ (Asks.cons ?_ (Asks.cons ?_ (Asks.cons ?_ (Asks.cons ?_ (Asks.zero _))))))))
 exact Ask.plain rfl rfl fun aq wq hNq hO hR hT => does_move (V := i64 ((k : Nat) : Int)) ((hO 3 rfl).trans s3_3) ⟨Ext.refl _, rfl⟩
 exact Ask.plain rfl rfl fun aq wq hNq hO hR hT => does_move (V := x1) ((hO 0 rfl).trans s0_3) ⟨Ext.refl _, rfl⟩
 exact Ask.plain rfl rfl fun aq wq hNq hO hR hT => does_len (T := Str) (xs := items) sli_22 (SlT.at (hT 5 rfl rfl) (hsx1_3.ext' hR)) ⟨Ext.refl _, rfl⟩
 exact Ask.plain rfl rfl fun aq wq hNq hO hR hT => does_lss (a := ((k : Nat) : Int)) (b := ((items.length : Nat) : Int)) (hT 4 rfl rfl) (hT 6 rfl rfl) ⟨Ext.refl _, rfl⟩
 exact Ask.plain rfl rfl fun aq wq hNq hO hR hT => does_move (V := Value.bool (decide (((k : Nat) : Int) < ((items.length : Nat) : Int)))) (hT 7 rfl rfl) ⟨Ext.refl _, rfl⟩
 refine Ask.guarded (B := decide (((k : Nat) : Int) < ((items.length : Nat) : Int))) (want := true) (t := 8) rfl rfl rfl rfl (by decide) (fun aq wq hO hR hT => hT 8 rfl rfl) (fun hG aq wq hNq hO hR hT => ?_) (fun hno _ => fun hc => absurd hc hno)
 exact does_move (V := i64 ((k : Nat) : Int)) ((hO 3 rfl).trans s3_3) ⟨Ext.refl _, fun _ => rfl⟩
 refine Ask.guarded (B := decide (((k : Nat) : Int) < ((items.length : Nat) : Int))) (want := true) (t := 8) rfl rfl rfl rfl (by decide) (fun aq wq hO hR hT => hT 8 rfl rfl) (fun hG aq wq hNq hO hR hT => ?_) (fun hno _ => fun hc => absurd hc hno)
 exact does_lss (a := ((k : Nat) : Int)) (b := ((13 : Nat) : Int)) (hT 9 rfl rfl hG) rfl ⟨Ext.refl _, fun _ => rfl⟩
 exact Ask.plain rfl rfl fun aq wq hNq hO hR hT => does_and (B := decide (((k : Nat) : Int) < ((items.length : Nat) : Int))) (X := decide (((k : Nat) : Int) < ((13 : Nat) : Int))) (hT 8 rfl rfl) (fun hB => (hT 10 rfl rfl hB)) rfl ⟨Ext.refl _, rfl⟩
 intro a4 wd4 hN_4 hD_4 hO hR hA hU
 obtain ⟨_, _, _, _, _, _, _, t11, _⟩ := hA
 have hE_4 := hE_3.trans hR
 have s0_4 := (hO 0 rfl).trans s0_3
 have s3_4 := (hO 3 rfl).trans s3_3
 have hsx1_4 := hsx1_3.ext' hR
 have s11_4 : get a4 11 = Value.bool ((decide (((k : Nat) : Int) < ((items.length : Nat) : Int))) && (decide (((k : Nat) : Int) < ((13 : Nat) : Int)))) := t11
 clear hE_3 hN_3 hD_3 s0_3 s3_3 hsx1_3
 refine tail_nil ?_
 refine wp_if (B := (decide (((k : Nat) : Int) < ((items.length : Nat) : Int))) && (decide (((k : Nat) : Int) < ((13 : Nat) : Int)))) s11_4 (fun hc0 => ?_) (fun hc0 => ?_)
 obtain ⟨hk1, hk2⟩ : ((k : Nat) : Int) < ((items.length : Nat) : Int) ∧ ((k : Nat) : Int) < 13 := by simpa using hc0
 obtain ⟨x, hx⟩ := get_of_lt (l := items) (k := k) (by omega)
 refine wp_skip ?_
 refine wp_seq ?_
 refine wp_block ?_
 refine wp_seq ?_
 refine region_lex [] [(14, Pr.ex (x1)), (15, Pr.ex (i64 ((k : Nat) : Int))), (16, Pr.pt' 0 (w0.heap.size + 1) [str (x)]), (17, Pr.ex (str (x))), (18, Pr.ex (i64 ((x.length : Nat) : Int))), (19, Pr.ex (Value.bool (decide (((300 : Nat) : Int) < ((x.length : Nat) : Int)))))] 6 hN_4 hD_4 (by kernel_rfl) (by kernel_rfl) ?_ ?_
 refine Asks.cons ?_ (Asks.cons ?_ (Asks.cons ?_ (Asks.cons ?_ (Asks.cons ?_ (Asks.cons ?_ (Asks.zero _))))))
 exact Ask.plain rfl rfl fun aq wq hNq hO hR hT => does_move (V := x1) ((hO 0 rfl).trans s0_4) ⟨Ext.refl _, rfl⟩
 exact Ask.plain rfl rfl fun aq wq hNq hO hR hT => does_move (V := i64 ((k : Nat) : Int)) ((hO 3 rfl).trans s3_4) ⟨Ext.refl _, rfl⟩
 exact Ask.plain rfl rfl fun aq wq hNq hO hR hT => does_indexSl (T := Str) (xs := items) (i := ((k : Nat) : Int)) (X := x) sli_22 rfl (SlT.at (hT 14 rfl rfl) (hsx1_4.ext' hR)) (hT 15 rfl rfl) (by omega) hx (fun v h => ⟨Ext.refl _, h⟩)
 exact Ask.plain rfl rfl fun aq wq hNq hO hR hT => does_loadP1 (V := str (x)) (hT 16 rfl rfl) one_9 ⟨Ext.refl _, rfl⟩
 exact Ask.plain rfl rfl fun aq wq hNq hO hR hT => does_lenStr (l := x) Tryd.underlying9 (hT 17 rfl rfl) ⟨Ext.refl _, rfl⟩
 exact Ask.plain rfl rfl fun aq wq hNq hO hR hT => does_gtr (a := ((x.length : Nat) : Int)) (b := ((300 : Nat) : Int)) (hT 18 rfl rfl) rfl ⟨Ext.refl _, rfl⟩
 intro a5 wd5 hN_5 hD_5 hO hR hA hU
 obtain ⟨_, _, _, _, _, t19, _⟩ := hA
 have hE_5 := hE_4.trans hR
 have s0_5 := (hO 0 rfl).trans s0_4
 have s3_5 := (hO 3 rfl).trans s3_4
 have hsx1_5 := hsx1_4.ext' hR
 have s19_5 : get a5 19 = Value.bool (decide (((300 : Nat) : Int) < ((x.length : Nat) : Int))) := t19
 clear hE_4 hN_4 hD_4 s0_4 s3_4 s11_4 hsx1_4
 refine tail_nil ?_
 refine wp_if (B := decide (((300 : Nat) : Int) < ((x.length : Nat) : Int))) s19_5 (fun hc1 => ?_) (fun hc1 => ?_)
 have hc1 := of_decide_eq_true hc1
 refine wp_seq ?_
 refine region_lex [] [(2, Pr.ex (Value.bool (false)))] 1 hN_5 hD_5 (by kernel_rfl) (by kernel_rfl) ?_ ?_
 refine Asks.cons ?_ (Asks.zero _)
 exact Ask.plain rfl rfl fun aq wq hNq hO hR hT => does_assign (V := Value.bool (false)) rfl ⟨Ext.refl _, rfl⟩
 intro a6 wd6 hN_6 hD_6 hO hR hA hU
 obtain ⟨t2, _⟩ := hA
 have hE_6 := hE_5.trans hR
 have hsx1_6 := hsx1_5.ext' hR
 have s2_6 : get a6 2 = Value.bool (false) := t2
 clear hE_5 hN_5 hD_5 s0_5 s3_5 s19_5 hsx1_5
 refine tail_nil ?_
 refine wp_ret ?_
 refine res_one (V := Value.bool (false)) rfl hD_6 s2_6 ?_
 exact ⟨by show Value.bool _ = Value.bool _; rw [few_no hx (by omega)], hE_6⟩
 have hc1 := of_decide_eq_false hc1
 refine wp_skip ?_
 refine region_lex [] [(12, Pr.ex (i64 ((k : Nat) : Int))), (13, Pr.ex (i64 ((k + 1 : Nat) : Int)))] 2 hN_5 hD_5 (by kernel_rfl) (by kernel_rfl) ?_ ?_
 refine Asks.cons ?_ (Asks.cons ?_ (Asks.zero _))
 exact Ask.plain rfl rfl fun aq wq hNq hO hR hT => does_move (V := i64 ((k : Nat) : Int)) ((hO 3 rfl).trans s3_5) ⟨Ext.refl _, rfl⟩
 exact Ask.plain rfl rfl fun aq wq hNq hO hR hT => does_add (a := ((k : Nat) : Int)) (b := ((1 : Nat) : Int)) (r := ((k + 1 : Nat) : Int)) (hT 12 rfl rfl) rfl (by omega) (by omega) (by omega) ⟨Ext.refl _, rfl⟩
 intro a7 wd7 hN_7 hD_7 hO hR hA hU
 obtain ⟨_, t13, _⟩ := hA
 have hE_7 := hE_5.trans hR
 have s0_7 := (hO 0 rfl).trans s0_5
 have s3_7 := (hO 3 rfl).trans s3_5
 have hsx1_7 := hsx1_5.ext' hR
 have s13_7 : get a7 13 = i64 ((k + 1 : Nat) : Int) := t13
 clear hE_5 hN_5 hD_5 s0_5 s3_5 s19_5 hsx1_5
 refine tail_put rfl rfl hN_7 hD_7 (by decide) (does_assign (V := i64 ((k + 1 : Nat) : Int)) s13_7 (fun a8 hN_8 hD_8 hv hO => ?_))
 have s3_8 := hv
 have s0_8 := (hO 0 rfl).trans s0_7
 clear hO hv hN_7 hD_7 s0_7 s13_7 s3_7
 refine tail_nil ?_
 exact ⟨_, by omega, k + 1, rfl, hN_8, hD_8, s0_8, s3_8, hE_7, hsx1_7, fun j y hj hy => (Nat.lt_succ_iff_lt_or_eq.1 hj).elim (fun h => hall j y h hy) (fun h => by subst h; rw [hx] at hy; cases hy; omega), by omega⟩
 have hk1 : ¬ (k < items.length ∧ k ≤ 12) := by intro h; have e1 : decide (((k : Nat) : Int) < ((items.length : Nat) : Int)) = true := decide_eq_true (by omega); have e2 : decide (((k : Nat) : Int) < ((13 : Nat) : Int)) = true := decide_eq_true (by omega); rw [e1, e2] at hc0; cases hc0
 refine wp_exit ?_
 refine wp_seq ?_
 refine region_lex [] [(20, Pr.ex (x1)), (21, Pr.ex (i64 ((items.length : Nat) : Int))), (22, Pr.ex (Value.bool (decide (((items.length : Nat) : Int) ≤ ((12 : Nat) : Int))))), (2, Pr.ex (Value.bool (decide (((items.length : Nat) : Int) ≤ ((12 : Nat) : Int)))))] 4 hN_4 hD_4 (by kernel_rfl) (by kernel_rfl) ?_ ?_
 refine Asks.cons ?_ (Asks.cons ?_ (Asks.cons ?_ (Asks.cons ?_ (Asks.zero _))))
 exact Ask.plain rfl rfl fun aq wq hNq hO hR hT => does_move (V := x1) ((hO 0 rfl).trans s0_4) ⟨Ext.refl _, rfl⟩
 exact Ask.plain rfl rfl fun aq wq hNq hO hR hT => does_len (T := Str) (xs := items) sli_22 (SlT.at (hT 20 rfl rfl) (hsx1_4.ext' hR)) ⟨Ext.refl _, rfl⟩
 exact Ask.plain rfl rfl fun aq wq hNq hO hR hT => does_leq (a := ((items.length : Nat) : Int)) (b := ((12 : Nat) : Int)) (hT 21 rfl rfl) rfl ⟨Ext.refl _, rfl⟩
 exact Ask.plain rfl rfl fun aq wq hNq hO hR hT => does_assign (V := Value.bool (decide (((items.length : Nat) : Int) ≤ ((12 : Nat) : Int)))) (hT 22 rfl rfl) ⟨Ext.refl _, rfl⟩
 intro a9 wd9 hN_9 hD_9 hO hR hA hU
 obtain ⟨_, _, _, t2, _⟩ := hA
 have hE_9 := hE_4.trans hR
 have hsx1_9 := hsx1_4.ext' hR
 have s2_9 : get a9 2 = Value.bool (decide (((items.length : Nat) : Int) ≤ ((12 : Nat) : Int))) := t2
 clear hE_4 hN_4 hD_4 s0_4 s3_4 s11_4 hsx1_4
 refine tail_nil ?_
 refine wp_ret ?_
 refine res_one (V := Value.bool (decide (((items.length : Nat) : Int) ≤ ((12 : Nat) : Int)))) rfl hD_9 s2_9 ?_
 exact ⟨by show Value.bool _ = Value.bool _; rw [← few_end hall hk1 hkl], hE_9⟩

theorem digestsT (items : List (List UInt8)) (x1 : Value) (w0 : World) (hL : Laid w0) (hx1 : SlT Str 0 0 items x1 w0) (hs : ∀ x ∈ items, x.length ≤ 65536) (hn : items.length ≤ 100000) :
    Gives Tryd.prog 36 #[x1] w0 (Pr.own' DG w0.heap.size 27 (items.map of)) := by
 refine enter (N := 20) Tryd.func36 rfl rfl ?_
 intro a0 hN_0 hD_0 hA
 have s0_0 : get a0 0 = x1 := hA 0 _ rfl
 clear hA
 have hE_0 : Ext w0 w0 := Ext.refl w0
 have hsx1_0 := hx1.close
 refine wp_seq ?_
 refine region_lex [] [(2, Pr.ex (Value.slice none 0 0))] 1 hN_0 hD_0 (by kernel_rfl) (by kernel_rfl) ?_ ?_
 refine Asks.cons ?_ (Asks.zero _)
 exact Ask.plain rfl rfl fun aq wq hNq hO hR hT => does_assign (V := Value.slice none 0 0) rfl ⟨Ext.refl _, rfl⟩
 intro a1 wd1 hN_1 hD_1 hO hR hA hU
 obtain ⟨_, _⟩ := hA
 have hE_1 := hE_0.trans hR
 have s0_1 := (hO 0 rfl).trans s0_0
 have hsx1_1 := hsx1_0.ext' hR
 clear hE_0 hN_0 hD_0 s0_0 hsx1_0
 refine tail_nil ?_
 refine wp_seq ?_
 refine region_lex [] [(3, Pr.ex (Value.slice none 0 0))] 1 hN_1 hD_1 (by kernel_rfl) (by kernel_rfl) ?_ ?_
 refine Asks.cons ?_ (Asks.zero _)
 exact Ask.plain rfl rfl fun aq wq hNq hO hR hT => does_assign (V := Value.slice none 0 0) rfl ⟨Ext.refl _, rfl⟩
 intro a2 wd2 hN_2 hD_2 hO hR hA hU
 obtain ⟨t3, _⟩ := hA
 have hE_2 := hE_1.trans hR
 have s0_2 := (hO 0 rfl).trans s0_1
 have hsx1_2 := hsx1_1.ext' hR
 have s3_2 : get a2 3 = Value.slice none 0 0 := t3
 clear hE_1 hN_1 hD_1 s0_1 hsx1_1
 refine tail_nil ?_
 refine wp_seq ?_
 refine wp_seq ?_
 refine region_lex [] [(4, Pr.ex (i64 ((0 : Nat) : Int)))] 1 hN_2 hD_2 (by kernel_rfl) (by kernel_rfl) ?_ ?_
 refine Asks.cons ?_ (Asks.zero _)
 exact Ask.plain rfl rfl fun aq wq hNq hO hR hT => does_assign (V := i64 ((0 : Nat) : Int)) rfl ⟨Ext.refl _, rfl⟩
 intro a3 wd3 hN_3 hD_3 hO hR hA hU
 obtain ⟨t4, _⟩ := hA
 have hE_3 := hE_2.trans hR
 have s0_3 := (hO 0 rfl).trans s0_2
 have s3_3 := (hO 3 rfl).trans s3_2
 have hsx1_3 := hsx1_2.ext' hR
 have s4_3 : get a3 4 = i64 ((0 : Nat) : Int) := t4
 clear hE_2 hN_2 hD_2 s0_2 s3_2 hsx1_2
 refine tail_nil ?_
 refine wp_block ?_
 refine loop_g (fun mz az wz => ∃ k : Nat, ∃ xo : Value, mz = items.length - k ∧ (az.tmps.size = 20) ∧ (az.defers = []) ∧ (get az 0 = x1) ∧ (get az 3 = xo) ∧ (get az 4 = i64 ((k : Nat) : Int)) ∧ (Ext w0 wz) ∧ (SlT Str 0 (w0.heap.size + 1) (items) x1 wz) ∧ (OwnT DG w0.heap.size 27 ((items.take k).map of) xo wz) ∧ (k ≤ items.length)) ?_ ?_
 exact ⟨_, 0, (Value.slice none 0 0), rfl, hN_3, hD_3, s0_3, s3_3, s4_3, hE_3, hsx1_3, (OwnT.nil DG w0.heap.size 27 _), Nat.zero_le _⟩
 rintro mz a4 wd4 ⟨k, xo, rfl, hN_4, hD_4, s0_4, s3_4, s4_4, hE_4, hsx1_4, hoxo_4, hk⟩
 have hsxo_4 := hoxo_4.sl.wide (Nat.zero_le _) (.inl rfl)
 refine wp_seq ?_
 refine wp_seq ?_
 refine region_lex [] [(5, Pr.ex (i64 ((k : Nat) : Int))), (6, Pr.ex (x1)), (7, Pr.ex (i64 ((items.length : Nat) : Int))), (8, Pr.ex (Value.bool (decide (((k : Nat) : Int) < ((items.length : Nat) : Int)))))] 4 hN_4 hD_4 (by kernel_rfl) (by kernel_rfl) ?_ ?_
 refine Asks.cons ?_ (Asks.cons ?_ (Asks.cons ?_ (Asks.cons ?_ (Asks.zero _))))
 exact Ask.plain rfl rfl fun aq wq hNq hO hR hT => does_move (V := i64 ((k : Nat) : Int)) ((hO 4 rfl).trans s4_4) ⟨Ext.refl _, rfl⟩
 exact Ask.plain rfl rfl fun aq wq hNq hO hR hT => does_move (V := x1) ((hO 0 rfl).trans s0_4) ⟨Ext.refl _, rfl⟩
 exact Ask.plain rfl rfl fun aq wq hNq hO hR hT => does_len (T := Str) (xs := items) sli_22 (SlT.at (hT 6 rfl rfl) (hsx1_4.ext' hR)) ⟨Ext.refl _, rfl⟩
 exact Ask.plain rfl rfl fun aq wq hNq hO hR hT => does_lss (a := ((k : Nat) : Int)) (b := ((items.length : Nat) : Int)) (hT 5 rfl rfl) (hT 7 rfl rfl) ⟨Ext.refl _, rfl⟩
 intro a5 wd5 hN_5 hD_5 hO hR hA hU
 obtain ⟨_, _, _, t8, _⟩ := hA
 have hE_5 := hE_4.trans hR
 have s0_5 := (hO 0 rfl).trans s0_4
 have s3_5 := (hO 3 rfl).trans s3_4
 have s4_5 := (hO 4 rfl).trans s4_4
 have hsx1_5 := hsx1_4.ext' hR
 have hsxo_5 := hsxo_4.ext' hR
 have hoxo_5 := hoxo_4.ext' hR
 have s8_5 : get a5 8 = Value.bool (decide (((k : Nat) : Int) < ((items.length : Nat) : Int))) := t8
 clear hE_4 hN_4 hD_4 s0_4 s3_4 s4_4 hsx1_4 hsxo_4 hoxo_4
 refine tail_nil ?_
 refine wp_if (B := decide (((k : Nat) : Int) < ((items.length : Nat) : Int))) s8_5 (fun hc0 => ?_) (fun hc0 => ?_)
 have hc0 := of_decide_eq_true hc0
 obtain ⟨x, hx⟩ := get_of_lt (l := items) (k := k) (by omega)
 refine wp_skip ?_
 refine wp_seq ?_
 refine wp_block ?_
 refine region_lex [] [(11, Pr.ex (xo)), (12, Pr.ex (x1)), (13, Pr.ex (i64 ((k : Nat) : Int))), (14, Pr.pt' 0 (w0.heap.size + 1) [str (x)]), (15, Pr.ex (str (x))), (16, Pr.ex (Dg.val (of x))), (17, Pr.own' DG wd5.heap.size 27 ([of x]))] 7 hN_5 hD_5 (by kernel_rfl) (by kernel_rfl) ?_ ?_
 refine Asks.cons ?_ (Asks.cons ?_ (Asks.cons ?_ (Asks.cons ?_ (Asks.cons ?_ (Asks.cons ?_ (Asks.cons ?_ (Asks.zero _)))))))
 exact Ask.plain rfl rfl fun aq wq hNq hO hR hT => does_move (V := xo) ((hO 3 rfl).trans s3_5) ⟨Ext.refl _, rfl⟩
 exact Ask.plain rfl rfl fun aq wq hNq hO hR hT => does_move (V := x1) ((hO 0 rfl).trans s0_5) ⟨Ext.refl _, rfl⟩
 exact Ask.plain rfl rfl fun aq wq hNq hO hR hT => does_move (V := i64 ((k : Nat) : Int)) ((hO 4 rfl).trans s4_5) ⟨Ext.refl _, rfl⟩
 exact Ask.plain rfl rfl fun aq wq hNq hO hR hT => does_indexSl (T := Str) (xs := items) (i := ((k : Nat) : Int)) (X := x) sli_22 rfl (SlT.at (hT 12 rfl rfl) (hsx1_5.ext' hR)) (hT 13 rfl rfl) (by omega) hx (fun v h => ⟨Ext.refl _, h⟩)
 exact Ask.plain rfl rfl fun aq wq hNq hO hR hT => does_loadP1 (V := str (x)) (hT 14 rfl rfl) one_9 ⟨Ext.refl _, rfl⟩
 exact Ask.plain rfl rfl fun aq wq hNq hO hR hT => does_ret (vs := #[str (x)]) call_42 (args1 (hT 15 rfl rfl)) rfl ((of_ (x) wq (hL.ext (hE_5.trans hR)) (hs x (mem_get hx))).mono fun v w2 h => ⟨h.2, h.1⟩)
 exact Ask.plain rfl rfl fun aq wq hNq hO hR hT => does_slice1 (T := DG) (X := of x) (V := Dg.val (of x)) app_41 rfl (by decide) (hT 16 rfl rfl) rfl (fun v w2 he _ ho => ⟨he, OwnT.base ho hR.size'⟩)
 intro a6 wd6 hN_6 hD_6 hO hR hA hU
 obtain ⟨t11, _, _, _, _, _, t17, _⟩ := hA
 have hE_6 := hE_5.trans hR
 have s0_6 := (hO 0 rfl).trans s0_5
 have s3_6 := (hO 3 rfl).trans s3_5
 have s4_6 := (hO 4 rfl).trans s4_5
 have hsx1_6 := hsx1_5.ext' hR
 have hsxo_6 := hsxo_5.ext' hR
 have hoxo_6 := hoxo_5.ext' hR
 have s11_6 : get a6 11 = xo := t11
 obtain ⟨x17, s17_6⟩ : ∃ x, get a6 17 = x := ⟨_, rfl⟩
 replace t17 : OwnT DG wd5.heap.size 27 ([of x]) x17 wd6 := by rw [← s17_6]; exact t17
 have no_x17_xo : ∀ k, x17.ownBlock = some k → xo.ownBlock ≠ some k := fun k e e' => Nat.lt_irrefl _ (Nat.lt_of_lt_of_le (OwnT.block_lt hoxo_5 e').2 (OwnT.block_lt t17 e).1)
 have hsx17_6 := t17.sl.wide (Nat.zero_le _) (.inl rfl)
 have hox17_6 := OwnT.base t17 hE_5.size'
 clear hE_5 hN_5 hD_5 s0_5 s3_5 s4_5 s8_5 hsx1_5 hsxo_5 hoxo_5
 refine tail_put rfl rfl hN_6 hD_6 (by decide) (does_append (T := DG) (base := w0.heap.size) (xs := (items.take k).map of) (ys := [of x]) (v := xo) app_41 s11_6 hoxo_6 (SlT.at s17_6 hsx17_6) (by simp) (by simp only [List.length_map, List.length_take, List.length_cons, List.length_nil]; omega) (by simp only [List.length_map, List.length_take, List.length_cons, List.length_nil]; omega) hE_6.size' (fun x18 wd7 hX hox18_7 hk a7 hN_7 hD_7 hv hO => ?_))
 have hE_7 := hE_6.since hX (fun b hb => Nat.le_trans (Nat.le_refl _) (OwnT.block_lt hoxo_6 hb).1)
 have hsx1_7 := SlT.overOwn hsx1_6 hoxo_6 hX
 have hox17_7 := OwnT.ext hox17_6 hX (fun k hk e => no_x17_xo k hk e)
 have no_x18_x17 : ∀ k, x18.ownBlock = some k → x17.ownBlock ≠ some k := fun k e e' => (hk k e).elim (fun h => no_x17_xo k e' h) (fun h => Nat.lt_irrefl _ (Nat.lt_of_lt_of_le (OwnT.block_lt hox17_6 e').2 h))
 have hsx17_7 := hox17_7.sl.wide (Nat.zero_le _) (.inl rfl)
 have hsx18_7 := hox18_7.sl.wide (Nat.zero_le _) (.inl rfl)
 rw [map_step of hx] at hox18_7 hsx18_7
 have s18_7 := hv
 have s0_7 := (hO 0 rfl).trans s0_6
 have s3_7 := (hO 3 rfl).trans s3_6
 have s4_7 := (hO 4 rfl).trans s4_6
 clear hO hv hX hk hN_6 hD_6 hE_6 hsx1_6 hox17_6 s0_6 s3_6 s4_6 s11_6 s17_6
 refine tail_put rfl rfl hN_7 hD_7 (by decide) (does_assign (V := x18) s18_7 (fun a8 hN_8 hD_8 hv hO => ?_))
 have s3_8 := hv
 have s0_8 := (hO 0 rfl).trans s0_7
 have s4_8 := (hO 4 rfl).trans s4_7
 clear hO hv hN_7 hD_7 s0_7 s4_7 s18_7 s3_7
 refine tail_nil ?_
 refine region_lex [] [(9, Pr.ex (i64 ((k : Nat) : Int))), (10, Pr.ex (i64 ((k + 1 : Nat) : Int)))] 2 hN_8 hD_8 (by kernel_rfl) (by kernel_rfl) ?_ ?_
 refine Asks.cons ?_ (Asks.cons ?_ (Asks.zero _))
 exact Ask.plain rfl rfl fun aq wq hNq hO hR hT => does_move (V := i64 ((k : Nat) : Int)) ((hO 4 rfl).trans s4_8) ⟨Ext.refl _, rfl⟩
 exact Ask.plain rfl rfl fun aq wq hNq hO hR hT => does_add (a := ((k : Nat) : Int)) (b := ((1 : Nat) : Int)) (r := ((k + 1 : Nat) : Int)) (hT 9 rfl rfl) rfl (by omega) (by omega) (by omega) ⟨Ext.refl _, rfl⟩
 intro a9 wd9 hN_9 hD_9 hO hR hA hU
 obtain ⟨_, t10, _⟩ := hA
 have hE_9 := hE_7.trans hR
 have s0_9 := (hO 0 rfl).trans s0_8
 have s3_9 := (hO 3 rfl).trans s3_8
 have s4_9 := (hO 4 rfl).trans s4_8
 have hsx1_9 := hsx1_7.ext' hR
 have hsx17_9 := hsx17_7.ext' hR
 have hsx18_9 := hsx18_7.ext' hR
 have hox17_9 := hox17_7.ext' hR
 have hox18_9 := hox18_7.ext' hR
 have s10_9 : get a9 10 = i64 ((k + 1 : Nat) : Int) := t10
 clear hE_7 hN_8 hD_8 s0_8 s3_8 s4_8 hsx1_7 hsx17_7 hsx18_7 hox17_7 hox18_7
 refine tail_put rfl rfl hN_9 hD_9 (by decide) (does_assign (V := i64 ((k + 1 : Nat) : Int)) s10_9 (fun a10 hN_10 hD_10 hv hO => ?_))
 have s4_10 := hv
 have s0_10 := (hO 0 rfl).trans s0_9
 have s3_10 := (hO 3 rfl).trans s3_9
 clear hO hv hN_9 hD_9 s0_9 s3_9 s10_9 s4_9
 refine tail_nil ?_
 exact ⟨_, by omega, k + 1, x18, rfl, hN_10, hD_10, s0_10, s3_10, s4_10, hE_9, hsx1_9, hox18_9, by omega⟩
 have hc0 := of_decide_eq_false hc0
 have hk2 : (items.take k).map of = items.map of := by rw [List.take_of_length_le (by omega)]
 refine wp_exit ?_
 refine wp_seq ?_
 refine region_lex [] [(19, Pr.ex (xo)), (2, Pr.ex (xo))] 2 hN_5 hD_5 (by kernel_rfl) (by kernel_rfl) ?_ ?_
 refine Asks.cons ?_ (Asks.cons ?_ (Asks.zero _))
 exact Ask.plain rfl rfl fun aq wq hNq hO hR hT => does_move (V := xo) ((hO 3 rfl).trans s3_5) ⟨Ext.refl _, rfl⟩
 exact Ask.plain rfl rfl fun aq wq hNq hO hR hT => does_assign (V := xo) (hT 19 rfl rfl) ⟨Ext.refl _, rfl⟩
 intro a11 wd11 hN_11 hD_11 hO hR hA hU
 obtain ⟨_, t2, _⟩ := hA
 have hE_11 := hE_5.trans hR
 have hsx1_11 := hsx1_5.ext' hR
 have hsxo_11 := hsxo_5.ext' hR
 have hoxo_11 := hoxo_5.ext' hR
 have s2_11 : get a11 2 = xo := t2
 clear hE_5 hN_5 hD_5 s0_5 s3_5 s4_5 s8_5 hsx1_5 hsxo_5 hoxo_5
 refine tail_nil ?_
 refine wp_ret ?_
 refine res_one (V := xo) rfl hD_11 s2_11 ?_
 have ho := hoxo_11
 rw [hk2] at ho
 exact ⟨ho, hE_11⟩

end Go.Proofs.YtijfjpbahepegaaDoor
