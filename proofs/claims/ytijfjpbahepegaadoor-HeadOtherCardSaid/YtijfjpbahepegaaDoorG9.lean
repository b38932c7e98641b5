/- The walks of functions of the program: printed. -/
import Derived.Test.YtijfjpbahepegaaDoorG3
import Derived.Test.YtijfjpbahepegaaDoorG6
import Derived.Test.YtijfjpbahepegaaDoorG7
import Derived.Test.YtijfjpbahepegaaDoorG8
import Derived.Test.YtijfjpbahepegaaDoorF0
set_option maxRecDepth 100000
namespace Go.Proofs.YtijfjpbahepegaaDoor
open Go Go.RowKit Sk Sd
theorem few_ (items : List (List UInt8)) (x1 : Value) (m b : Nat) (w0 : World) (hx1 : SlT Str 0 0 items x1 w0) (hm : m ≤ 1000000) :
    Gives Tryd.prog 39 #[Value.agg #[x1], i64 ((m : Nat) : Int), i64 ((b : Nat) : Int)] w0 (Pr.ex (Value.bool (few items m b))) := by
  refine enter (N := 33) Tryd.func39 rfl rfl ?_
  intro a0 hN_0 hD_0 hA
  have s0_0 : get a0 0 = Value.agg #[x1] := hA 0 _ rfl
  have s1_0 : get a0 1 = i64 ((m : Nat) : Int) := hA 1 _ rfl
  have s2_0 : get a0 2 = i64 ((b : Nat) : Int) := hA 2 _ rfl
  clear hA
  have hE_0 : Ext w0 w0 := Ext.refl w0
  have hsx1_0 := hx1.close
  refine wp_seq ?_
  refine region_lex [3] [(3, Pr.box' w0.heap.size 24 [x1]), (6, Pr.ex (Value.bool (false)))] 2 hN_0 hD_0 (by kernel_rfl) (by kernel_rfl) ?_ ?_
  · refine Asks.cons ?_ (Asks.cons ?_ (Asks.zero _))
    · refine Ask.fresh rfl rfl ?_
      intro aq wq hNq hO hR hT
      exact does_box (V := Value.agg #[x1]) ((hO 0 rfl).trans s0_0) (fun b w2 he hlo hb => ⟨he, ⟨b, rfl, Nat.le_trans hR.size' hlo, hb⟩, ⟨b, rfl, hlo, hb.lt⟩⟩)
    · refine Ask.plain rfl rfl ?_
      intro aq wq hNq hO hR hT
      exact does_assign (V := Value.bool (false)) rfl ⟨Ext.refl _, rfl⟩
  intro a1 wd1 hN_1 hD_1 hO hR hA hU
  obtain ⟨t3, _, _⟩ := hA
  have hE_1 := hE_0.trans hR
  have s1_1 := (hO 1 rfl).trans s1_0
  have s2_1 := (hO 2 rfl).trans s2_0
  have hsx1_1 := hsx1_0.ext' hR
  obtain ⟨b3, s3_1, lo_b3, hbb3_1⟩ := t3
  have nb_x1_b3 := SlT.old hsx1_0 lo_b3
  have fr_b3 : w0.heap.size ≤ b3 := Nat.le_trans hE_0.size' lo_b3
  clear hE_0 hN_0 hD_0 s0_0 s1_0 s2_0 hsx1_0
  refine tail_nil ?_
  refine wp_seq ?_
  refine wp_seq ?_
  refine region_lex [] [(7, Pr.ex (i64 ((0 : Nat) : Int)))] 1 hN_1 hD_1 (by kernel_rfl) (by kernel_rfl) ?_ ?_
  · refine Asks.cons ?_ (Asks.zero _)
    · refine Ask.plain rfl rfl ?_
      intro aq wq hNq hO hR hT
      exact does_assign (V := i64 ((0 : Nat) : Int)) rfl ⟨Ext.refl _, rfl⟩
  intro a2 wd2 hN_2 hD_2 hO hR hA hU
  obtain ⟨t7, _⟩ := hA
  have hE_2 := hE_1.trans hR
  have s1_2 := (hO 1 rfl).trans s1_1
  have s2_2 := (hO 2 rfl).trans s2_1
  have s3_2 := (hO 3 rfl).trans s3_1
  have hbb3_2 := hbb3_1.ext' hR
  have hsx1_2 := hsx1_1.ext' hR
  have s7_2 : get a2 7 = i64 ((0 : Nat) : Int) := t7
  clear hE_1 hN_1 hD_1 s1_1 s2_1 s3_1 hbb3_1 hsx1_1
  refine tail_nil ?_
  refine wp_block ?_
  refine loop_g (fun mz az wz => ∃ k : Nat, mz = items.length - k ∧ (az.tmps.size = 33) ∧ (az.defers = []) ∧ (get az 1 = i64 ((m : Nat) : Int)) ∧ (get az 2 = i64 ((b : Nat) : Int)) ∧ (get az 3 = Value.pointer (some ⟨b3, 0, none⟩)) ∧ (get az 7 = i64 ((k : Nat) : Int)) ∧ (Ext w0 wz) ∧ (Has wz b3 24 [x1]) ∧ (SlT Str 0 (w0.heap.size + 1) (items) x1 wz) ∧ (∀ j x, j < k → items[j]? = some x → x.length ≤ b) ∧ (k ≤ items.length)) ?_ ?_
  · exact ⟨_, 0, rfl, hN_2, hD_2, s1_2, s2_2, s3_2, s7_2, hE_2, hbb3_2, hsx1_2, fun j x hj => absurd hj (Nat.not_lt_zero _), Nat.zero_le _⟩
  rintro mz a3 wd3 ⟨k, rfl, hN_3, hD_3, s1_3, s2_3, s3_3, s7_3, hE_3, hbb3_3, hsx1_3, hall, hkl⟩
  refine wp_seq ?_
  refine wp_seq ?_
  refine region_lex [] [(8, Pr.ex (i64 ((k : Nat) : Int))), (9, Pr.ex (Value.pointer (some ⟨b3, 0, none⟩))), (10, Pr.ex (x1)), (11, Pr.ex (i64 ((items.length : Nat) : Int))), (12, Pr.ex (Value.bool (decide (((k : Nat) : Int) < ((items.length : Nat) : Int))))), (13, Pr.ex (Value.bool (decide (((k : Nat) : Int) < ((items.length : Nat) : Int))))), (14, Pr.ifb (decide (((k : Nat) : Int) < ((items.length : Nat) : Int))) (Pr.ex (i64 ((k : Nat) : Int)))), (15, Pr.ifb (decide (((k : Nat) : Int) < ((items.length : Nat) : Int))) (Pr.ex (i64 ((m : Nat) : Int)))), (16, Pr.ifb (decide (((k : Nat) : Int) < ((items.length : Nat) : Int))) (Pr.ex (Value.bool (decide (((k : Nat) : Int) ≤ ((m : Nat) : Int)))))), (17, Pr.ex (Value.bool ((decide (((k : Nat) : Int) < ((items.length : Nat) : Int))) && (decide (((k : Nat) : Int) ≤ ((m : Nat) : Int))))))] 10 hN_3 hD_3 (by kernel_rfl) (by kernel_rfl) ?_ ?_
  · refine Asks.cons ?_ (Asks.cons ?_ (Asks.cons ?_ (Asks.cons ?_ (Asks.cons ?_ (Asks.cons ?_ (Asks.cons ?_ (Asks.cons ?_ (Asks.cons ?_ (Asks.cons ?_ (Asks.zero _))))))))))
    · refine Ask.plain rfl rfl ?_
      intro aq wq hNq hO hR hT
      exact does_move (V := i64 ((k : Nat) : Int)) ((hO 7 rfl).trans s7_3) ⟨Ext.refl _, rfl⟩
    · refine Ask.plain rfl rfl ?_
      intro aq wq hNq hO hR hT
      exact does_field (o' := 0) fld_24_0 ((hO 3 rfl).trans s3_3) rfl ⟨Ext.refl _, rfl⟩
    · refine Ask.plain rfl rfl ?_
      intro aq wq hNq hO hR hT
      exact does_loadD1 (o := 0) (V := x1) (hT 9 rfl rfl) (hbb3_3.ext' hR) rfl one_22 ⟨Ext.refl _, rfl⟩
    · refine Ask.plain rfl rfl ?_
      intro aq wq hNq hO hR hT
      exact does_len (T := Str) (xs := items) sli_22 (SlT.at (hT 10 rfl rfl) (hsx1_3.ext' hR)) ⟨Ext.refl _, rfl⟩
    · refine Ask.plain rfl rfl ?_
      intro aq wq hNq hO hR hT
      exact does_lss (a := ((k : Nat) : Int)) (b := ((items.length : Nat) : Int)) (hT 8 rfl rfl) (hT 11 rfl rfl) ⟨Ext.refl _, rfl⟩
    · refine Ask.plain rfl rfl ?_
      intro aq wq hNq hO hR hT
      exact does_move (V := Value.bool (decide (((k : Nat) : Int) < ((items.length : Nat) : Int)))) (hT 12 rfl rfl) ⟨Ext.refl _, rfl⟩
    · refine Ask.guarded (B := decide (((k : Nat) : Int) < ((items.length : Nat) : Int))) (want := true) (t := 13) rfl rfl rfl rfl (by decide) (fun aq wq hO hR hT => hT 13 rfl rfl) (fun hG aq wq hNq hO hR hT => ?_) (fun hno _ hc => absurd hc hno)
      exact does_move (V := i64 ((k : Nat) : Int)) ((hO 7 rfl).trans s7_3) ⟨Ext.refl _, fun _ => rfl⟩
    · refine Ask.guarded (B := decide (((k : Nat) : Int) < ((items.length : Nat) : Int))) (want := true) (t := 13) rfl rfl rfl rfl (by decide) (fun aq wq hO hR hT => hT 13 rfl rfl) (fun hG aq wq hNq hO hR hT => ?_) (fun hno _ hc => absurd hc hno)
      exact does_move (V := i64 ((m : Nat) : Int)) ((hO 1 rfl).trans s1_3) ⟨Ext.refl _, fun _ => rfl⟩
    · refine Ask.guarded (B := decide (((k : Nat) : Int) < ((items.length : Nat) : Int))) (want := true) (t := 13) rfl rfl rfl rfl (by decide) (fun aq wq hO hR hT => hT 13 rfl rfl) (fun hG aq wq hNq hO hR hT => ?_) (fun hno _ hc => absurd hc hno)
      exact does_leq (a := ((k : Nat) : Int)) (b := ((m : Nat) : Int)) (hT 14 rfl rfl (hG)) (hT 15 rfl rfl (hG)) ⟨Ext.refl _, fun _ => rfl⟩
    · refine Ask.plain rfl rfl ?_
      intro aq wq hNq hO hR hT
      exact does_and (B := decide (((k : Nat) : Int) < ((items.length : Nat) : Int))) (X := decide (((k : Nat) : Int) ≤ ((m : Nat) : Int))) (hT 13 rfl rfl) (fun hB => (hT 16 rfl rfl hB)) rfl ⟨Ext.refl _, rfl⟩
  intro a4 wd4 hN_4 hD_4 hO hR hA hU
  obtain ⟨_, _, _, _, _, _, _, _, _, t17, _⟩ := hA
  have hE_4 := hE_3.trans hR
  have s1_4 := (hO 1 rfl).trans s1_3
  have s2_4 := (hO 2 rfl).trans s2_3
  have s3_4 := (hO 3 rfl).trans s3_3
  have s7_4 := (hO 7 rfl).trans s7_3
  have hbb3_4 := hbb3_3.ext' hR
  have hsx1_4 := hsx1_3.ext' hR
  have s17_4 : get a4 17 = Value.bool ((decide (((k : Nat) : Int) < ((items.length : Nat) : Int))) && (decide (((k : Nat) : Int) ≤ ((m : Nat) : Int)))) := t17
  clear hE_3 hN_3 hD_3 s1_3 s2_3 s3_3 s7_3 hbb3_3 hsx1_3
  refine tail_nil ?_
  refine wp_if (B := (decide (((k : Nat) : Int) < ((items.length : Nat) : Int))) && (decide (((k : Nat) : Int) ≤ ((m : Nat) : Int)))) s17_4 (fun hc0 => ?_) (fun hc0 => ?_)
  · -- T 0
    obtain ⟨hk1, hk2⟩ : k < items.length ∧ k ≤ m := by simpa using hc0
    obtain ⟨x, hx⟩ := get_of_lt hk1
    refine wp_skip ?_
    refine wp_seq ?_
    refine wp_block ?_
    refine wp_seq ?_
    refine region_lex [] [(20, Pr.ex (Value.pointer (some ⟨b3, 0, none⟩))), (21, Pr.ex (x1)), (22, Pr.ex (i64 ((k : Nat) : Int))), (23, Pr.pt' 0 (w0.heap.size + 1) [str (x)]), (24, Pr.ex (str (x))), (25, Pr.ex (i64 ((x.length : Nat) : Int))), (26, Pr.ex (i64 ((b : Nat) : Int))), (27, Pr.ex (Value.bool (decide (((b : Nat) : Int) < ((x.length : Nat) : Int)))))] 8 hN_4 hD_4 (by kernel_rfl) (by kernel_rfl) ?_ ?_
    · refine Asks.cons ?_ (Asks.cons ?_ (Asks.cons ?_ (Asks.cons ?_ (Asks.cons ?_ (Asks.cons ?_ (Asks.cons ?_ (Asks.cons ?_ (Asks.zero _))))))))
      · refine Ask.plain rfl rfl ?_
        intro aq wq hNq hO hR hT
        exact does_field (o' := 0) fld_24_0 ((hO 3 rfl).trans s3_4) rfl ⟨Ext.refl _, rfl⟩
      · refine Ask.plain rfl rfl ?_
        intro aq wq hNq hO hR hT
        exact does_loadD1 (o := 0) (V := x1) (hT 20 rfl rfl) (hbb3_4.ext' hR) rfl one_22 ⟨Ext.refl _, rfl⟩
      · refine Ask.plain rfl rfl ?_
        intro aq wq hNq hO hR hT
        exact does_move (V := i64 ((k : Nat) : Int)) ((hO 7 rfl).trans s7_4) ⟨Ext.refl _, rfl⟩
      · refine Ask.plain rfl rfl ?_
        intro aq wq hNq hO hR hT
        exact does_indexSl (T := Str) (xs := items) (i := ((k : Nat) : Int)) (X := x) sli_22 rfl (SlT.at (hT 21 rfl rfl) (hsx1_4.ext' hR)) (hT 22 rfl rfl) (by omega) hx (fun v h => ⟨Ext.refl _, h⟩)
      · refine Ask.plain rfl rfl ?_
        intro aq wq hNq hO hR hT
        exact does_loadP1 (V := str (x)) (hT 23 rfl rfl) one_9 ⟨Ext.refl _, rfl⟩
      · refine Ask.plain rfl rfl ?_
        intro aq wq hNq hO hR hT
        exact does_lenStr (l := x) Tryd.underlying9 (hT 24 rfl rfl) ⟨Ext.refl _, rfl⟩
      · refine Ask.plain rfl rfl ?_
        intro aq wq hNq hO hR hT
        exact does_move (V := i64 ((b : Nat) : Int)) ((hO 2 rfl).trans s2_4) ⟨Ext.refl _, rfl⟩
      · refine Ask.plain rfl rfl ?_
        intro aq wq hNq hO hR hT
        exact does_gtr (a := ((x.length : Nat) : Int)) (b := ((b : Nat) : Int)) (hT 25 rfl rfl) (hT 26 rfl rfl) ⟨Ext.refl _, rfl⟩
    intro a5 wd5 hN_5 hD_5 hO hR hA hU
    obtain ⟨_, _, _, _, _, _, _, t27, _⟩ := hA
    have hE_5 := hE_4.trans hR
    have s1_5 := (hO 1 rfl).trans s1_4
    have s2_5 := (hO 2 rfl).trans s2_4
    have s3_5 := (hO 3 rfl).trans s3_4
    have s7_5 := (hO 7 rfl).trans s7_4
    have hbb3_5 := hbb3_4.ext' hR
    have hsx1_5 := hsx1_4.ext' hR
    have s27_5 : get a5 27 = Value.bool (decide (((b : Nat) : Int) < ((x.length : Nat) : Int))) := t27
    clear hE_4 hN_4 hD_4 s1_4 s2_4 s3_4 s7_4 s17_4 hbb3_4 hsx1_4
    refine tail_nil ?_
    refine wp_if (B := decide (((b : Nat) : Int) < ((x.length : Nat) : Int))) s27_5 (fun hc1 => ?_) (fun hc1 => ?_)
    · -- T 1
      have hc1 := of_decide_eq_true hc1
      refine wp_seq ?_
      refine region_lex [] [(6, Pr.ex (Value.bool (false)))] 1 hN_5 hD_5 (by kernel_rfl) (by kernel_rfl) ?_ ?_
      · refine Asks.cons ?_ (Asks.zero _)
        · refine Ask.plain rfl rfl ?_
          intro aq wq hNq hO hR hT
          exact does_assign (V := Value.bool (false)) rfl ⟨Ext.refl _, rfl⟩
      intro a6 wd6 hN_6 hD_6 hO hR hA hU
      obtain ⟨t6, _⟩ := hA
      have hE_6 := hE_5.trans hR
      have hbb3_6 := hbb3_5.ext' hR
      have hsx1_6 := hsx1_5.ext' hR
      have s6_6 : get a6 6 = Value.bool (false) := t6
      clear hE_5 hN_5 hD_5 s1_5 s2_5 s3_5 s7_5 s27_5 hbb3_5 hsx1_5
      refine tail_nil ?_
      refine wp_ret ?_
      refine res_one (V := Value.bool (false)) rfl hD_6 s6_6 ?_
      exact ⟨by show Value.bool _ = Value.bool _; rw [few_no hx (by omega)], hE_6⟩
    have hc1 := of_decide_eq_false hc1
    refine wp_skip ?_
    refine region_lex [] [(18, Pr.ex (i64 ((k : Nat) : Int))), (19, Pr.ex (i64 ((k + 1 : Nat) : Int)))] 2 hN_5 hD_5 (by kernel_rfl) (by kernel_rfl) ?_ ?_
    · refine Asks.cons ?_ (Asks.cons ?_ (Asks.zero _))
      · refine Ask.plain rfl rfl ?_
        intro aq wq hNq hO hR hT
        exact does_move (V := i64 ((k : Nat) : Int)) ((hO 7 rfl).trans s7_5) ⟨Ext.refl _, rfl⟩
      · refine Ask.plain rfl rfl ?_
        intro aq wq hNq hO hR hT
        exact does_add (a := ((k : Nat) : Int)) (b := ((1 : Nat) : Int)) (r := ((k + 1 : Nat) : Int)) (hT 18 rfl rfl) rfl (by omega) (by omega) (by omega) ⟨Ext.refl _, rfl⟩
    intro a7 wd7 hN_7 hD_7 hO hR hA hU
    obtain ⟨_, t19, _⟩ := hA
    have hE_7 := hE_5.trans hR
    have s1_7 := (hO 1 rfl).trans s1_5
    have s2_7 := (hO 2 rfl).trans s2_5
    have s3_7 := (hO 3 rfl).trans s3_5
    have s7_7 := (hO 7 rfl).trans s7_5
    have hbb3_7 := hbb3_5.ext' hR
    have hsx1_7 := hsx1_5.ext' hR
    have s19_7 : get a7 19 = i64 ((k + 1 : Nat) : Int) := t19
    clear hE_5 hN_5 hD_5 s1_5 s2_5 s3_5 s7_5 s27_5 hbb3_5 hsx1_5
    refine tail_put rfl rfl hN_7 hD_7 (by decide) (does_assign (V := i64 ((k + 1 : Nat) : Int)) s19_7 (fun a8 hN_8 hD_8 hv hO => ?_))
    have s7_8 := hv
    have s1_8 := (hO 1 rfl).trans s1_7
    have s2_8 := (hO 2 rfl).trans s2_7
    have s3_8 := (hO 3 rfl).trans s3_7
    clear hO hv hN_7 hD_7 s1_7 s2_7 s3_7 s19_7 s7_7
    refine tail_nil ?_
    exact ⟨_, by omega, k + 1, rfl, hN_8, hD_8, s1_8, s2_8, s3_8, s7_8, hE_7, hbb3_7, hsx1_7, fun j y hj hy => (Nat.lt_succ_iff_lt_or_eq.1 hj).elim (fun h => hall j y h hy) (fun h => by subst h; rw [hx] at hy; cases hy; omega), by omega⟩
  have hk1 : ¬ (k < items.length ∧ k ≤ m) := by intro h; simp [h.1, h.2] at hc0
  refine wp_exit ?_
  refine wp_seq ?_
  refine region_lex [] [(28, Pr.ex (Value.pointer (some ⟨b3, 0, none⟩))), (29, Pr.ex (x1)), (30, Pr.ex (i64 ((items.length : Nat) : Int))), (31, Pr.ex (i64 ((m : Nat) : Int))), (32, Pr.ex (Value.bool (decide (((items.length : Nat) : Int) ≤ ((m : Nat) : Int))))), (6, Pr.ex (Value.bool (decide (((items.length : Nat) : Int) ≤ ((m : Nat) : Int)))))] 6 hN_4 hD_4 (by kernel_rfl) (by kernel_rfl) ?_ ?_
  · refine Asks.cons ?_ (Asks.cons ?_ (Asks.cons ?_ (Asks.cons ?_ (Asks.cons ?_ (Asks.cons ?_ (Asks.zero _))))))
    · refine Ask.plain rfl rfl ?_
      intro aq wq hNq hO hR hT
      exact does_field (o' := 0) fld_24_0 ((hO 3 rfl).trans s3_4) rfl ⟨Ext.refl _, rfl⟩
    · refine Ask.plain rfl rfl ?_
      intro aq wq hNq hO hR hT
      exact does_loadD1 (o := 0) (V := x1) (hT 28 rfl rfl) (hbb3_4.ext' hR) rfl one_22 ⟨Ext.refl _, rfl⟩
    · refine Ask.plain rfl rfl ?_
      intro aq wq hNq hO hR hT
      exact does_len (T := Str) (xs := items) sli_22 (SlT.at (hT 29 rfl rfl) (hsx1_4.ext' hR)) ⟨Ext.refl _, rfl⟩
    · refine Ask.plain rfl rfl ?_
      intro aq wq hNq hO hR hT
      exact does_move (V := i64 ((m : Nat) : Int)) ((hO 1 rfl).trans s1_4) ⟨Ext.refl _, rfl⟩
    · refine Ask.plain rfl rfl ?_
      intro aq wq hNq hO hR hT
      exact does_leq (a := ((items.length : Nat) : Int)) (b := ((m : Nat) : Int)) (hT 30 rfl rfl) (hT 31 rfl rfl) ⟨Ext.refl _, rfl⟩
    · refine Ask.plain rfl rfl ?_
      intro aq wq hNq hO hR hT
      exact does_assign (V := Value.bool (decide (((items.length : Nat) : Int) ≤ ((m : Nat) : Int)))) (hT 32 rfl rfl) ⟨Ext.refl _, rfl⟩
  intro a9 wd9 hN_9 hD_9 hO hR hA hU
  obtain ⟨_, _, _, _, _, t6, _⟩ := hA
  have hE_9 := hE_4.trans hR
  have hbb3_9 := hbb3_4.ext' hR
  have hsx1_9 := hsx1_4.ext' hR
  have s6_9 : get a9 6 = Value.bool (decide (((items.length : Nat) : Int) ≤ ((m : Nat) : Int))) := t6
  clear hE_4 hN_4 hD_4 s1_4 s2_4 s3_4 s7_4 s17_4 hbb3_4 hsx1_4
  refine tail_nil ?_
  refine wp_ret ?_
  refine res_one (V := Value.bool (decide (((items.length : Nat) : Int) ≤ ((m : Nat) : Int)))) rfl hD_9 s6_9 ?_
  exact ⟨by show Value.bool _ = Value.bool _; rw [few_end hall hk1 hkl], hE_9⟩

theorem right_ (items : List (List UInt8)) (x1 : Value) (w0 : World) (hx1 : SlT Str 0 0 items x1 w0) (hs : ∀ x ∈ items, x.length ≤ 65536) (hn : items.length ≤ 100000) :
    Gives Tryd.prog 20 #[Value.agg #[x1]] w0 (Pr.ex (Value.bool (right items))) := by
  refine enter (N := 32) Tryd.func20 rfl rfl ?_
  intro a0 hN_0 hD_0 hA
  have s0_0 : get a0 0 = Value.agg #[x1] := hA 0 _ rfl
  clear hA
  have hE_0 : Ext w0 w0 := Ext.refl w0
  have hsx1_0 := hx1.close
  refine wp_seq ?_
  refine region_lex [1] [(1, Pr.box' w0.heap.size 24 [x1]), (2, Pr.ex (Value.bool (false)))] 2 hN_0 hD_0 (by kernel_rfl) (by kernel_rfl) ?_ ?_
  · refine Asks.cons ?_ (Asks.cons ?_ (Asks.zero _))
    · refine Ask.fresh rfl rfl ?_
      intro aq wq hNq hO hR hT
      exact does_box (V := Value.agg #[x1]) ((hO 0 rfl).trans s0_0) (fun b w2 he hlo hb => ⟨he, ⟨b, rfl, Nat.le_trans hR.size' hlo, hb⟩, ⟨b, rfl, hlo, hb.lt⟩⟩)
    · refine Ask.plain rfl rfl ?_
      intro aq wq hNq hO hR hT
      exact does_assign (V := Value.bool (false)) rfl ⟨Ext.refl _, rfl⟩
  intro a1 wd1 hN_1 hD_1 hO hR hA hU
  obtain ⟨t1, _, _⟩ := hA
  have hE_1 := hE_0.trans hR
  have hsx1_1 := hsx1_0.ext' hR
  obtain ⟨b1, s1_1, lo_b1, hbb1_1⟩ := t1
  have nb_x1_b1 := SlT.old hsx1_0 lo_b1
  have fr_b1 : w0.heap.size ≤ b1 := Nat.le_trans hE_0.size' lo_b1
  clear hE_0 hN_0 hD_0 s0_0 hsx1_0
  refine tail_nil ?_
  refine wp_seq ?_
  refine wp_seq ?_
  refine region_lex [] [(6, Pr.ex (Value.pointer (some ⟨b1, 0, none⟩))), (7, Pr.ex (x1)), (8, Pr.ex (i64 ((items.length : Nat) : Int))), (9, Pr.ex (Value.bool (decide (((1000 : Nat) : Int) < ((items.length : Nat) : Int)))))] 4 hN_1 hD_1 (by kernel_rfl) (by kernel_rfl) ?_ ?_
  · refine Asks.cons ?_ (Asks.cons ?_ (Asks.cons ?_ (Asks.cons ?_ (Asks.zero _))))
    · refine Ask.plain rfl rfl ?_
      intro aq wq hNq hO hR hT
      exact does_field (o' := 0) fld_24_0 ((hO 1 rfl).trans s1_1) rfl ⟨Ext.refl _, rfl⟩
    · refine Ask.plain rfl rfl ?_
      intro aq wq hNq hO hR hT
      exact does_loadD1 (o := 0) (V := x1) (hT 6 rfl rfl) (hbb1_1.ext' hR) rfl one_22 ⟨Ext.refl _, rfl⟩
    · refine Ask.plain rfl rfl ?_
      intro aq wq hNq hO hR hT
      exact does_len (T := Str) (xs := items) sli_22 (SlT.at (hT 7 rfl rfl) (hsx1_1.ext' hR)) ⟨Ext.refl _, rfl⟩
    · refine Ask.plain rfl rfl ?_
      intro aq wq hNq hO hR hT
      exact does_gtr (a := ((items.length : Nat) : Int)) (b := ((1000 : Nat) : Int)) (hT 8 rfl rfl) rfl ⟨Ext.refl _, rfl⟩
  intro a2 wd2 hN_2 hD_2 hO hR hA hU
  obtain ⟨_, _, _, t9, _⟩ := hA
  have hE_2 := hE_1.trans hR
  have s1_2 := (hO 1 rfl).trans s1_1
  have hbb1_2 := hbb1_1.ext' hR
  have hsx1_2 := hsx1_1.ext' hR
  have s9_2 : get a2 9 = Value.bool (decide (((1000 : Nat) : Int) < ((items.length : Nat) : Int))) := t9
  clear hE_1 hN_1 hD_1 s1_1 hbb1_1 hsx1_1
  refine tail_nil ?_
  refine wp_if (B := decide (((1000 : Nat) : Int) < ((items.length : Nat) : Int))) s9_2 (fun hc0 => ?_) (fun hc0 => ?_)
  · -- T 0
    have hc0 := of_decide_eq_true hc0
    refine wp_seq ?_
    refine region_lex [] [(2, Pr.ex (Value.bool (false)))] 1 hN_2 hD_2 (by kernel_rfl) (by kernel_rfl) ?_ ?_
    · refine Asks.cons ?_ (Asks.zero _)
      · refine Ask.plain rfl rfl ?_
        intro aq wq hNq hO hR hT
        exact does_assign (V := Value.bool (false)) rfl ⟨Ext.refl _, rfl⟩
    intro a3 wd3 hN_3 hD_3 hO hR hA hU
    obtain ⟨t2, _⟩ := hA
    have hE_3 := hE_2.trans hR
    have hbb1_3 := hbb1_2.ext' hR
    have hsx1_3 := hsx1_2.ext' hR
    have s2_3 : get a3 2 = Value.bool (false) := t2
    clear hE_2 hN_2 hD_2 s1_2 s9_2 hbb1_2 hsx1_2
    refine tail_nil ?_
    refine wp_ret ?_
    refine res_one (V := Value.bool (false)) rfl hD_3 s2_3 ?_
    exact ⟨by show Value.bool _ = Value.bool _; rw [right_long (by omega)], hE_3⟩
  have hc0 := of_decide_eq_false hc0
  refine wp_skip ?_
  refine wp_seq ?_
  refine region_lex [] [(10, Pr.ex (Value.agg #[x1])), (11, Pr.own' DG wd2.heap.size 27 (items.map of)), (3, Pr.own' DG wd2.heap.size 27 (items.map of))] 3 hN_2 hD_2 (by kernel_rfl) (by kernel_rfl) ?_ ?_
  · refine Asks.cons ?_ (Asks.cons ?_ (Asks.cons ?_ (Asks.zero _)))
    · refine Ask.plain rfl rfl ?_
      intro aq wq hNq hO hR hT
      exact does_loadD (o := 0) (n := 1) (mid := [x1]) ((hO 1 rfl).trans s1_2) (hbb1_2.ext' hR) rfl rfl (Nat.le_of_ble_eq_true rfl) row_24 rfl ⟨Ext.refl _, rfl⟩
    · refine Ask.plain rfl rfl ?_
      intro aq wq hNq hO hR hT
      exact does_ret (vs := #[Value.agg #[x1]]) call_21 (args1 (hT 10 rfl rfl)) rfl ((digestsR (items) (x1) wq ((hsx1_2.ext' hR).wide (Nat.zero_le _) (.inl rfl)) hs hn).mono fun v w2 h => ⟨h.2, OwnT.base h.1 hR.size'⟩)
    · refine Ask.plain rfl rfl ?_
      intro aq wq hNq hO hR hT
      exact does_assign rfl ⟨Ext.refl _, (hT 11 rfl rfl)⟩
  intro a4 wd4 hN_4 hD_4 hO hR hA hU
  obtain ⟨_, _, t3, _⟩ := hA
  have hE_4 := hE_2.trans hR
  have hbb1_4 := hbb1_2.ext' hR
  have hsx1_4 := hsx1_2.ext' hR
  obtain ⟨x3, s3_4⟩ : ∃ x, get a4 3 = x := ⟨_, rfl⟩
  replace t3 : OwnT DG wd2.heap.size 27 (items.map of) x3 wd4 := by rw [← s3_4]; exact t3
  have nbo_x3_b1 : x3.ownBlock ≠ some b1 := fun e => Nat.lt_irrefl _ (Nat.lt_of_lt_of_le hbb1_2.lt (OwnT.block_lt t3 e).1)
  have hsx3_4 := t3.sl.wide (Nat.zero_le _) (.inl rfl)
  have hox3_4 := OwnT.base t3 hE_2.size'
  clear hE_2 hN_2 hD_2 s1_2 s9_2 hbb1_2 hsx1_2
  refine tail_nil ?_
  refine wp_seq ?_
  refine wp_seq ?_
  refine region_lex [] [(4, Pr.ex (i64 ((0 : Nat) : Int)))] 1 hN_4 hD_4 (by kernel_rfl) (by kernel_rfl) ?_ ?_
  · refine Asks.cons ?_ (Asks.zero _)
    · refine Ask.plain rfl rfl ?_
      intro aq wq hNq hO hR hT
      exact does_assign (V := i64 ((0 : Nat) : Int)) rfl ⟨Ext.refl _, rfl⟩
  intro a5 wd5 hN_5 hD_5 hO hR hA hU
  obtain ⟨t4, _⟩ := hA
  have hE_5 := hE_4.trans hR
  have s3_5 := (hO 3 rfl).trans s3_4
  have hbb1_5 := hbb1_4.ext' hR
  have hsx1_5 := hsx1_4.ext' hR
  have hsx3_5 := hsx3_4.ext' hR
  have hox3_5 := hox3_4.ext' hR
  have s4_5 : get a5 4 = i64 ((0 : Nat) : Int) := t4
  clear hE_4 hN_4 hD_4 s3_4 hbb1_4 hsx1_4 hsx3_4 hox3_4
  refine tail_nil ?_
  refine wp_block ?_
  refine loop_g (fun mz az wz => ∃ i : Nat, mz = (items.map of).length - i ∧ (az.tmps.size = 32) ∧ (az.defers = []) ∧ (get az 3 = x3) ∧ (get az 4 = i64 ((i : Nat) : Int)) ∧ (Ext w0 wz) ∧ (Has wz b1 24 [x1]) ∧ (SlT Str 0 (w0.heap.size + 1) (items) x1 wz) ∧ (SlT DG 0 0 (items.map of) x3 wz) ∧ (((items.map of).take i).Nodup) ∧ (i ≤ (items.map of).length)) ?_ ?_
  · exact ⟨_, 0, rfl, hN_5, hD_5, s3_5, s4_5, hE_5, hbb1_5, hsx1_5, hsx3_5, List.nodup_nil, Nat.zero_le _⟩
  rintro mz a6 wd6 ⟨i, rfl, hN_6, hD_6, s3_6, s4_6, hE_6, hbb1_6, hsx1_6, hsx3_6, hnd, hi⟩
  have hml : (items.map of).length = items.length := List.length_map _
  refine wp_seq ?_
  refine wp_seq ?_
  refine region_lex [] [(12, Pr.ex (i64 ((i : Nat) : Int))), (13, Pr.ex (x3)), (14, Pr.ex (i64 (((items.map of).length : Nat) : Int))), (15, Pr.ex (Value.bool (decide (((i : Nat) : Int) < (((items.map of).length : Nat) : Int)))))] 4 hN_6 hD_6 (by kernel_rfl) (by kernel_rfl) ?_ ?_
  · refine Asks.cons ?_ (Asks.cons ?_ (Asks.cons ?_ (Asks.cons ?_ (Asks.zero _))))
    · refine Ask.plain rfl rfl ?_
      intro aq wq hNq hO hR hT
      exact does_move (V := i64 ((i : Nat) : Int)) ((hO 4 rfl).trans s4_6) ⟨Ext.refl _, rfl⟩
    · refine Ask.plain rfl rfl ?_
      intro aq wq hNq hO hR hT
      exact does_move (V := x3) ((hO 3 rfl).trans s3_6) ⟨Ext.refl _, rfl⟩
    · refine Ask.plain rfl rfl ?_
      intro aq wq hNq hO hR hT
      exact does_len (T := DG) (xs := items.map of) sli_41 (SlT.at (hT 13 rfl rfl) (hsx3_6.ext' hR)) ⟨Ext.refl _, rfl⟩
    · refine Ask.plain rfl rfl ?_
      intro aq wq hNq hO hR hT
      exact does_lss (a := ((i : Nat) : Int)) (b := (((items.map of).length : Nat) : Int)) (hT 12 rfl rfl) (hT 14 rfl rfl) ⟨Ext.refl _, rfl⟩
  intro a7 wd7 hN_7 hD_7 hO hR hA hU
  obtain ⟨_, _, _, t15, _⟩ := hA
  have hE_7 := hE_6.trans hR
  have s3_7 := (hO 3 rfl).trans s3_6
  have s4_7 := (hO 4 rfl).trans s4_6
  have hbb1_7 := hbb1_6.ext' hR
  have hsx1_7 := hsx1_6.ext' hR
  have hsx3_7 := hsx3_6.ext' hR
  have s15_7 : get a7 15 = Value.bool (decide (((i : Nat) : Int) < (((items.map of).length : Nat) : Int))) := t15
  clear hE_6 hN_6 hD_6 s3_6 s4_6 hbb1_6 hsx1_6 hsx3_6
  refine tail_nil ?_
  refine wp_if (B := decide (((i : Nat) : Int) < (((items.map of).length : Nat) : Int))) s15_7 (fun hc1 => ?_) (fun hc1 => ?_)
  · -- T 1
    have hc1 := of_decide_eq_true hc1
    obtain ⟨d, hd⟩ := get_of_lt (l := items.map of) (k := i) (by omega)
    refine wp_skip ?_
    refine wp_seq ?_
    refine wp_block ?_
    refine wp_seq ?_
    refine region_lex [] [(5, Pr.ex (i64 ((0 : Nat) : Int)))] 1 hN_7 hD_7 (by kernel_rfl) (by kernel_rfl) ?_ ?_
    · refine Asks.cons ?_ (Asks.zero _)
      · refine Ask.plain rfl rfl ?_
        intro aq wq hNq hO hR hT
        exact does_assign (V := i64 ((0 : Nat) : Int)) rfl ⟨Ext.refl _, rfl⟩
    intro a8 wd8 hN_8 hD_8 hO hR hA hU
    obtain ⟨t5, _⟩ := hA
    have hE_8 := hE_7.trans hR
    have s3_8 := (hO 3 rfl).trans s3_7
    have s4_8 := (hO 4 rfl).trans s4_7
    have hbb1_8 := hbb1_7.ext' hR
    have hsx1_8 := hsx1_7.ext' hR
    have hsx3_8 := hsx3_7.ext' hR
    have s5_8 : get a8 5 = i64 ((0 : Nat) : Int) := t5
    clear hE_7 hN_7 hD_7 s3_7 s4_7 s15_7 hbb1_7 hsx1_7 hsx3_7
    refine tail_nil ?_
    refine wp_block ?_
    refine loop_g (fun mz az wz => ∃ k : Nat, mz = i - k ∧ (az.tmps.size = 32) ∧ (az.defers = []) ∧ (get az 3 = x3) ∧ (get az 4 = i64 ((i : Nat) : Int)) ∧ (get az 5 = i64 ((k : Nat) : Int)) ∧ (Ext w0 wz) ∧ (Has wz b1 24 [x1]) ∧ (SlT Str 0 (w0.heap.size + 1) (items) x1 wz) ∧ (SlT DG 0 0 (items.map of) x3 wz) ∧ (∀ j e, j < k → (items.map of)[j]? = some e → e ≠ d) ∧ (k ≤ i)) ?_ ?_
    · exact ⟨_, 0, rfl, hN_8, hD_8, s3_8, s4_8, s5_8, hE_8, hbb1_8, hsx1_8, hsx3_8, fun j e hj => absurd hj (Nat.not_lt_zero _), Nat.zero_le _⟩
    rintro mz a9 wd9 ⟨k, rfl, hN_9, hD_9, s3_9, s4_9, s5_9, hE_9, hbb1_9, hsx1_9, hsx3_9, hall, hk⟩
    refine wp_seq ?_
    refine wp_seq ?_
    refine region_lex [] [(18, Pr.ex (i64 ((k : Nat) : Int))), (19, Pr.ex (i64 ((i : Nat) : Int))), (20, Pr.ex (Value.bool (decide (((k : Nat) : Int) < ((i : Nat) : Int)))))] 3 hN_9 hD_9 (by kernel_rfl) (by kernel_rfl) ?_ ?_
    · refine Asks.cons ?_ (Asks.cons ?_ (Asks.cons ?_ (Asks.zero _)))
      · refine Ask.plain rfl rfl ?_
        intro aq wq hNq hO hR hT
        exact does_move (V := i64 ((k : Nat) : Int)) ((hO 5 rfl).trans s5_9) ⟨Ext.refl _, rfl⟩
      · refine Ask.plain rfl rfl ?_
        intro aq wq hNq hO hR hT
        exact does_move (V := i64 ((i : Nat) : Int)) ((hO 4 rfl).trans s4_9) ⟨Ext.refl _, rfl⟩
      · refine Ask.plain rfl rfl ?_
        intro aq wq hNq hO hR hT
        exact does_lss (a := ((k : Nat) : Int)) (b := ((i : Nat) : Int)) (hT 18 rfl rfl) (hT 19 rfl rfl) ⟨Ext.refl _, rfl⟩
    intro a10 wd10 hN_10 hD_10 hO hR hA hU
    obtain ⟨_, _, t20, _⟩ := hA
    have hE_10 := hE_9.trans hR
    have s3_10 := (hO 3 rfl).trans s3_9
    have s4_10 := (hO 4 rfl).trans s4_9
    have s5_10 := (hO 5 rfl).trans s5_9
    have hbb1_10 := hbb1_9.ext' hR
    have hsx1_10 := hsx1_9.ext' hR
    have hsx3_10 := hsx3_9.ext' hR
    have s20_10 : get a10 20 = Value.bool (decide (((k : Nat) : Int) < ((i : Nat) : Int))) := t20
    clear hE_9 hN_9 hD_9 s3_9 s4_9 s5_9 hbb1_9 hsx1_9 hsx3_9
    refine tail_nil ?_
    refine wp_if (B := decide (((k : Nat) : Int) < ((i : Nat) : Int))) s20_10 (fun hc2 => ?_) (fun hc2 => ?_)
    · -- T 2
      have hc2 := of_decide_eq_true hc2
      obtain ⟨e, he⟩ := get_of_lt (l := items.map of) (k := k) (by omega)
      refine wp_skip ?_
      refine wp_seq ?_
      refine wp_block ?_
      refine wp_seq ?_
      refine region_any [] [(23, Pr.ex (x3)), (24, Pr.ex (i64 ((i : Nat) : Int))), (25, Pr.pt' 0 0 [w32 (d).a, w32 (d).b, w32 (d).c, w32 (d).d]), (26, Pr.ex (Dg.val (d))), (27, Pr.ex (x3)), (28, Pr.ex (i64 ((k : Nat) : Int))), (29, Pr.pt' 0 0 [w32 (e).a, w32 (e).b, w32 (e).c, w32 (e).d]), (30, Pr.ex (Dg.val (e))), (31, Pr.ex (Value.bool (decide (d = e))))] 9 mixed hN_10 hD_10 (by kernel_rfl) (by kernel_rfl) (by kernel_rfl) ?_ ?_
      · refine Asks.cons ?_ (Asks.cons ?_ (Asks.cons ?_ (Asks.cons ?_ (Asks.cons ?_ (Asks.cons ?_ (Asks.cons ?_ (Asks.cons ?_ (Asks.cons ?_ (Asks.zero _)))))))))
        · refine Ask.plain rfl rfl ?_
          intro aq wq hNq hO hR hT
          replace hR := (Ext.drew _).trans hR
          exact does_move (V := x3) ((hO 3 rfl).trans s3_10) ⟨Ext.refl _, rfl⟩
        · refine Ask.plain rfl rfl ?_
          intro aq wq hNq hO hR hT
          replace hR := (Ext.drew _).trans hR
          exact does_move (V := i64 ((i : Nat) : Int)) ((hO 4 rfl).trans s4_10) ⟨Ext.refl _, rfl⟩
        · refine Ask.plain rfl rfl ?_
          intro aq wq hNq hO hR hT
          replace hR := (Ext.drew _).trans hR
          exact does_indexSl (T := DG) (xs := items.map of) (i := ((i : Nat) : Int)) (X := d) sli_41 rfl (SlT.at (hT 23 rfl rfl) (hsx3_10.ext' hR)) (hT 24 rfl rfl) (by omega) hd (fun v h => ⟨Ext.refl _, h⟩)
        · refine Ask.plain rfl rfl ?_
          intro aq wq hNq hO hR hT
          replace hR := (Ext.drew _).trans hR
          exact does_loadP (cs := [w32 (d).a, w32 (d).b, w32 (d).c, w32 (d).d]) (hT 25 rfl rfl) row_27 rfl ⟨Ext.refl _, rfl⟩
        · refine Ask.plain rfl rfl ?_
          intro aq wq hNq hO hR hT
          replace hR := (Ext.drew _).trans hR
          exact does_move (V := x3) ((hO 3 rfl).trans s3_10) ⟨Ext.refl _, rfl⟩
        · refine Ask.plain rfl rfl ?_
          intro aq wq hNq hO hR hT
          replace hR := (Ext.drew _).trans hR
          exact does_move (V := i64 ((k : Nat) : Int)) ((hO 5 rfl).trans s5_10) ⟨Ext.refl _, rfl⟩
        · refine Ask.plain rfl rfl ?_
          intro aq wq hNq hO hR hT
          replace hR := (Ext.drew _).trans hR
          exact does_indexSl (T := DG) (xs := items.map of) (i := ((k : Nat) : Int)) (X := e) sli_41 rfl (SlT.at (hT 27 rfl rfl) (hsx3_10.ext' hR)) (hT 28 rfl rfl) (by omega) he (fun v h => ⟨Ext.refl _, h⟩)
        · refine Ask.plain rfl rfl ?_
          intro aq wq hNq hO hR hT
          replace hR := (Ext.drew _).trans hR
          exact does_loadP (cs := [w32 (e).a, w32 (e).b, w32 (e).c, w32 (e).d]) (hT 29 rfl rfl) row_27 rfl ⟨Ext.refl _, rfl⟩
        · refine Ask.plain rfl rfl ?_
          intro aq wq hNq hO hR hT
          replace hR := (Ext.drew _).trans hR
          exact does_eqT (a := d) (b := e) eq_27 (hT 26 rfl rfl) (hT 30 rfl rfl) ⟨Ext.refl _, rfl⟩
      intro a11 wd11 hN_11 hD_11 hO hR hA hU
      obtain ⟨_, _, _, _, _, _, _, _, t31, _⟩ := hA
      have hE_11 := hE_10.trans hR
      have s3_11 := (hO 3 rfl).trans s3_10
      have s4_11 := (hO 4 rfl).trans s4_10
      have s5_11 := (hO 5 rfl).trans s5_10
      have hbb1_11 := hbb1_10.ext' hR
      have hsx1_11 := hsx1_10.ext' hR
      have hsx3_11 := hsx3_10.ext' hR
      have s31_11 : get a11 31 = Value.bool (decide (d = e)) := t31
      clear hE_10 hN_10 hD_10 s3_10 s4_10 s5_10 s20_10 hbb1_10 hsx1_10 hsx3_10
      refine tail_nil ?_
      refine wp_if (B := decide (d = e)) s31_11 (fun hc3 => ?_) (fun hc3 => ?_)
      · -- T 3
        have hc3 := of_decide_eq_true hc3
        refine wp_seq ?_
        refine region_lex [] [(2, Pr.ex (Value.bool (false)))] 1 hN_11 hD_11 (by kernel_rfl) (by kernel_rfl) ?_ ?_
        · refine Asks.cons ?_ (Asks.zero _)
          · refine Ask.plain rfl rfl ?_
            intro aq wq hNq hO hR hT
            exact does_assign (V := Value.bool (false)) rfl ⟨Ext.refl _, rfl⟩
        intro a12 wd12 hN_12 hD_12 hO hR hA hU
        obtain ⟨t2, _⟩ := hA
        have hE_12 := hE_11.trans hR
        have hbb1_12 := hbb1_11.ext' hR
        have hsx1_12 := hsx1_11.ext' hR
        have hsx3_12 := hsx3_11.ext' hR
        have s2_12 : get a12 2 = Value.bool (false) := t2
        clear hE_11 hN_11 hD_11 s3_11 s4_11 s5_11 s31_11 hbb1_11 hsx1_11 hsx3_11
        refine tail_nil ?_
        refine wp_ret ?_
        refine res_one (V := Value.bool (false)) rfl hD_12 s2_12 ?_
        subst hc3
        exact ⟨by show Value.bool _ = Value.bool _; rw [right_no (not_nodup hd he (by omega))], hE_12⟩
      have hc3 := of_decide_eq_false hc3
      refine wp_skip ?_
      refine region_lex [] [(21, Pr.ex (i64 ((k : Nat) : Int))), (22, Pr.ex (i64 ((k + 1 : Nat) : Int)))] 2 hN_11 hD_11 (by kernel_rfl) (by kernel_rfl) ?_ ?_
      · refine Asks.cons ?_ (Asks.cons ?_ (Asks.zero _))
        · refine Ask.plain rfl rfl ?_
          intro aq wq hNq hO hR hT
          exact does_move (V := i64 ((k : Nat) : Int)) ((hO 5 rfl).trans s5_11) ⟨Ext.refl _, rfl⟩
        · refine Ask.plain rfl rfl ?_
          intro aq wq hNq hO hR hT
          exact does_add (a := ((k : Nat) : Int)) (b := ((1 : Nat) : Int)) (r := ((k + 1 : Nat) : Int)) (hT 21 rfl rfl) rfl (by omega) (by omega) (by omega) ⟨Ext.refl _, rfl⟩
      intro a13 wd13 hN_13 hD_13 hO hR hA hU
      obtain ⟨_, t22, _⟩ := hA
      have hE_13 := hE_11.trans hR
      have s3_13 := (hO 3 rfl).trans s3_11
      have s4_13 := (hO 4 rfl).trans s4_11
      have s5_13 := (hO 5 rfl).trans s5_11
      have hbb1_13 := hbb1_11.ext' hR
      have hsx1_13 := hsx1_11.ext' hR
      have hsx3_13 := hsx3_11.ext' hR
      have s22_13 : get a13 22 = i64 ((k + 1 : Nat) : Int) := t22
      clear hE_11 hN_11 hD_11 s3_11 s4_11 s5_11 s31_11 hbb1_11 hsx1_11 hsx3_11
      refine tail_put rfl rfl hN_13 hD_13 (by decide) (does_assign (V := i64 ((k + 1 : Nat) : Int)) s22_13 (fun a14 hN_14 hD_14 hv hO => ?_))
      have s5_14 := hv
      have s3_14 := (hO 3 rfl).trans s3_13
      have s4_14 := (hO 4 rfl).trans s4_13
      clear hO hv hN_13 hD_13 s3_13 s4_13 s22_13 s5_13
      refine tail_nil ?_
      exact ⟨_, by omega, k + 1, rfl, hN_14, hD_14, s3_14, s4_14, s5_14, hE_13, hbb1_13, hsx1_13, hsx3_13, fun j y hj hy => (Nat.lt_succ_iff_lt_or_eq.1 hj).elim (fun h => hall j y h hy) (fun h => by subst h; rw [he] at hy; cases hy; exact fun h => hc3 h.symm), by omega⟩
    have hc2 := of_decide_eq_false hc2
    refine wp_exit ?_
    refine region_lex [] [(16, Pr.ex (i64 ((i : Nat) : Int))), (17, Pr.ex (i64 ((i + 1 : Nat) : Int)))] 2 hN_10 hD_10 (by kernel_rfl) (by kernel_rfl) ?_ ?_
    · refine Asks.cons ?_ (Asks.cons ?_ (Asks.zero _))
      · refine Ask.plain rfl rfl ?_
        intro aq wq hNq hO hR hT
        exact does_move (V := i64 ((i : Nat) : Int)) ((hO 4 rfl).trans s4_10) ⟨Ext.refl _, rfl⟩
      · refine Ask.plain rfl rfl ?_
        intro aq wq hNq hO hR hT
        exact does_add (a := ((i : Nat) : Int)) (b := ((1 : Nat) : Int)) (r := ((i + 1 : Nat) : Int)) (hT 16 rfl rfl) rfl (by omega) (by omega) (by omega) ⟨Ext.refl _, rfl⟩
    intro a15 wd15 hN_15 hD_15 hO hR hA hU
    obtain ⟨_, t17, _⟩ := hA
    have hE_15 := hE_10.trans hR
    have s3_15 := (hO 3 rfl).trans s3_10
    have s4_15 := (hO 4 rfl).trans s4_10
    have hbb1_15 := hbb1_10.ext' hR
    have hsx1_15 := hsx1_10.ext' hR
    have hsx3_15 := hsx3_10.ext' hR
    have s17_15 : get a15 17 = i64 ((i + 1 : Nat) : Int) := t17
    clear hE_10 hN_10 hD_10 s3_10 s4_10 s5_10 s20_10 hbb1_10 hsx1_10 hsx3_10
    refine tail_put rfl rfl hN_15 hD_15 (by decide) (does_assign (V := i64 ((i + 1 : Nat) : Int)) s17_15 (fun a16 hN_16 hD_16 hv hO => ?_))
    have s4_16 := hv
    have s3_16 := (hO 3 rfl).trans s3_15
    clear hO hv hN_15 hD_15 s3_15 s17_15 s4_15
    refine tail_nil ?_
    exact ⟨_, by omega, i + 1, rfl, hN_16, hD_16, s3_16, s4_16, hE_15, hbb1_15, hsx1_15, hsx3_15, nodup_step hnd hd (fun j e hj => hall j e (by omega)), by omega⟩
  have hc1 := of_decide_eq_false hc1
  have hi2 : (items.map of).take i = items.map of := List.take_of_length_le (by omega)
  refine wp_exit ?_
  refine wp_seq ?_
  refine region_lex [] [(2, Pr.ex (Value.bool (true)))] 1 hN_7 hD_7 (by kernel_rfl) (by kernel_rfl) ?_ ?_
  · refine Asks.cons ?_ (Asks.zero _)
    · refine Ask.plain rfl rfl ?_
      intro aq wq hNq hO hR hT
      exact does_assign (V := Value.bool (true)) rfl ⟨Ext.refl _, rfl⟩
  intro a17 wd17 hN_17 hD_17 hO hR hA hU
  obtain ⟨t2, _⟩ := hA
  have hE_17 := hE_7.trans hR
  have hbb1_17 := hbb1_7.ext' hR
  have hsx1_17 := hsx1_7.ext' hR
  have hsx3_17 := hsx3_7.ext' hR
  have s2_17 : get a17 2 = Value.bool (true) := t2
  clear hE_7 hN_7 hD_7 s3_7 s4_7 s15_7 hbb1_7 hsx1_7 hsx3_7
  refine tail_nil ?_
  refine wp_ret ?_
  refine res_one (V := Value.bool (true)) rfl hD_17 s2_17 ?_
  rw [hi2] at hnd
  exact ⟨by show Value.bool _ = Value.bool _; rw [right_yes (by omega) hnd], hE_17⟩

theorem lost_ (items : List (List UInt8)) (x1 : Value) (h : Head) (w0 : World) (hL : Laid w0) (hx1 : SlT Str 0 0 items x1 w0) (hs : ∀ x ∈ items, x.length ≤ 65536) (hn : items.length ≤ 100000) :
    Gives Tryd.prog 14 #[Value.agg #[x1], Value.agg #[i64 (h.size), w32 (h.root).a, w32 (h.root).b, w32 (h.root).c, w32 (h.root).d]] w0 (Pr.ex (i64 ((lost items h : Nat) : Int))) := by
  refine enter (N := 26) Tryd.func14 rfl rfl ?_
  intro a0 hN_0 hD_0 hA
  have s0_0 : get a0 0 = Value.agg #[x1] := hA 0 _ rfl
  have s1_0 : get a0 1 = Value.agg #[i64 (h.size), w32 (h.root).a, w32 (h.root).b, w32 (h.root).c, w32 (h.root).d] := hA 1 _ rfl
  clear hA
  have hE_0 : Ext w0 w0 := Ext.refl w0
  have hsx1_0 := hx1.close
  refine wp_seq ?_
  refine region_lex [2, 3] [(2, Pr.box' w0.heap.size 24 [x1]), (3, Pr.box' w0.heap.size 29 [i64 (h.size), w32 (h.root).a, w32 (h.root).b, w32 (h.root).c, w32 (h.root).d]), (4, Pr.ex (i64 ((0 : Nat) : Int)))] 3 hN_0 hD_0 (by kernel_rfl) (by kernel_rfl) ?_ ?_
  · refine Asks.cons ?_ (Asks.cons ?_ (Asks.cons ?_ (Asks.zero _)))
    · refine Ask.fresh rfl rfl ?_
      intro aq wq hNq hO hR hT
      exact does_box (V := Value.agg #[x1]) ((hO 0 rfl).trans s0_0) (fun b w2 he hlo hb => ⟨he, ⟨b, rfl, Nat.le_trans hR.size' hlo, hb⟩, ⟨b, rfl, hlo, hb.lt⟩⟩)
    · refine Ask.fresh rfl rfl ?_
      intro aq wq hNq hO hR hT
      exact does_box (V := Value.agg #[i64 (h.size), w32 (h.root).a, w32 (h.root).b, w32 (h.root).c, w32 (h.root).d]) ((hO 1 rfl).trans s1_0) (fun b w2 he hlo hb => ⟨he, ⟨b, rfl, Nat.le_trans hR.size' hlo, hb⟩, ⟨b, rfl, hlo, hb.lt⟩⟩)
    · refine Ask.plain rfl rfl ?_
      intro aq wq hNq hO hR hT
      exact does_assign (V := i64 ((0 : Nat) : Int)) rfl ⟨Ext.refl _, rfl⟩
  intro a1 wd1 hN_1 hD_1 hO hR hA hU
  obtain ⟨t2, t3, _, _⟩ := hA
  have hE_1 := hE_0.trans hR
  have hsx1_1 := hsx1_0.ext' hR
  obtain ⟨b2, s2_1, lo_b2, hbb2_1⟩ := t2
  have nb_x1_b2 := SlT.old hsx1_0 lo_b2
  have fr_b2 : w0.heap.size ≤ b2 := Nat.le_trans hE_0.size' lo_b2
  obtain ⟨b3, s3_1, lo_b3, hbb3_1⟩ := t3
  have nb_x1_b3 := SlT.old hsx1_0 lo_b3
  have fr_b3 : w0.heap.size ≤ b3 := Nat.le_trans hE_0.size' lo_b3
  obtain ⟨u0, ⟨u1, _⟩⟩ := hU
  have ne_b2_b3 : b2 ≠ b3 := fun e => u0 3 (by decide) (by rw [s2_1, s3_1, e])
  clear hE_0 hN_0 hD_0 s0_0 s1_0 hsx1_0
  refine tail_nil ?_
  refine wp_seq ?_
  refine wp_block ?_
  refine wp_seq ?_
  refine region_lex [] [(6, Pr.ex (Value.pointer (some ⟨b3, 0, none⟩))), (7, Pr.ex (i64 (h.size))), (8, Pr.ex (Value.bool (decide (h.size < ((0 : Nat) : Int))))), (5, Pr.ex (Value.bool (decide (h.size < ((0 : Nat) : Int)))))] 4 hN_1 hD_1 (by kernel_rfl) (by kernel_rfl) ?_ ?_
  · refine Asks.cons ?_ (Asks.cons ?_ (Asks.cons ?_ (Asks.cons ?_ (Asks.zero _))))
    · refine Ask.plain rfl rfl ?_
      intro aq wq hNq hO hR hT
      exact does_field (o' := 0) fld_29_0 ((hO 3 rfl).trans s3_1) rfl ⟨Ext.refl _, rfl⟩
    · refine Ask.plain rfl rfl ?_
      intro aq wq hNq hO hR hT
      exact does_loadD1 (o := 0) (V := i64 (h.size)) (hT 6 rfl rfl) (hbb3_1.ext' hR) rfl one_3 ⟨Ext.refl _, rfl⟩
    · refine Ask.plain rfl rfl ?_
      intro aq wq hNq hO hR hT
      exact does_lss (a := h.size) (b := ((0 : Nat) : Int)) (hT 7 rfl rfl) rfl ⟨Ext.refl _, rfl⟩
    · refine Ask.plain rfl rfl ?_
      intro aq wq hNq hO hR hT
      exact does_assign (V := Value.bool (decide (h.size < ((0 : Nat) : Int)))) (hT 8 rfl rfl) ⟨Ext.refl _, rfl⟩
  intro a2 wd2 hN_2 hD_2 hO hR hA hU
  obtain ⟨_, _, _, t5, _⟩ := hA
  have hE_2 := hE_1.trans hR
  have s2_2 := (hO 2 rfl).trans s2_1
  have s3_2 := (hO 3 rfl).trans s3_1
  have hbb2_2 := hbb2_1.ext' hR
  have hbb3_2 := hbb3_1.ext' hR
  have hsx1_2 := hsx1_1.ext' hR
  have s5_2 : get a2 5 = Value.bool (decide (h.size < ((0 : Nat) : Int))) := t5
  clear hE_1 hN_1 hD_1 s2_1 s3_1 hbb2_1 hbb3_1 hsx1_1
  refine tail_nil ?_
  refine wp_if (B := decide (h.size < ((0 : Nat) : Int))) s5_2 (fun hc0 => ?_) (fun hc0 => ?_)
  · -- T 0
    have hc0 := of_decide_eq_true hc0
    refine wp_seq ?_
    refine region_lex [] [(4, Pr.ex (i64 ((1 : Nat) : Int)))] 1 hN_2 hD_2 (by kernel_rfl) (by kernel_rfl) ?_ ?_
    · refine Asks.cons ?_ (Asks.zero _)
      · refine Ask.plain rfl rfl ?_
        intro aq wq hNq hO hR hT
        exact does_assign (V := i64 ((1 : Nat) : Int)) rfl ⟨Ext.refl _, rfl⟩
    intro a3 wd3 hN_3 hD_3 hO hR hA hU
    obtain ⟨t4, _⟩ := hA
    have hE_3 := hE_2.trans hR
    have hbb2_3 := hbb2_2.ext' hR
    have hbb3_3 := hbb3_2.ext' hR
    have hsx1_3 := hsx1_2.ext' hR
    have s4_3 : get a3 4 = i64 ((1 : Nat) : Int) := t4
    clear hE_2 hN_2 hD_2 s2_2 s3_2 s5_2 hbb2_2 hbb3_2 hsx1_2
    refine tail_nil ?_
    refine wp_ret ?_
    refine res_one (V := i64 ((1 : Nat) : Int)) rfl hD_3 s4_3 ?_
    exact ⟨by show i64 _ = i64 _; rw [lost_neg hc0], hE_3⟩
  have hc0 := of_decide_eq_false hc0
  refine wp_seq ?_
  refine region_lex [] [(10, Pr.ex (Value.pointer (some ⟨b3, 0, none⟩))), (11, Pr.ex (i64 (h.size))), (12, Pr.ex (Value.pointer (some ⟨b2, 0, none⟩))), (13, Pr.ex (x1)), (14, Pr.ex (i64 ((items.length : Nat) : Int))), (15, Pr.ex (Value.bool (decide (((items.length : Nat) : Int) < h.size)))), (9, Pr.ex (Value.bool (decide (((items.length : Nat) : Int) < h.size))))] 7 hN_2 hD_2 (by kernel_rfl) (by kernel_rfl) ?_ ?_
  · refine Asks.cons ?_ (Asks.cons ?_ (Asks.cons ?_ (Asks.cons ?_ (Asks.cons ?_ (Asks.cons ?_ (Asks.cons ?_ (Asks.zero _)))))))
    · refine Ask.plain rfl rfl ?_
      intro aq wq hNq hO hR hT
      exact does_field (o' := 0) fld_29_0 ((hO 3 rfl).trans s3_2) rfl ⟨Ext.refl _, rfl⟩
    · refine Ask.plain rfl rfl ?_
      intro aq wq hNq hO hR hT
      exact does_loadD1 (o := 0) (V := i64 (h.size)) (hT 10 rfl rfl) (hbb3_2.ext' hR) rfl one_3 ⟨Ext.refl _, rfl⟩
    · refine Ask.plain rfl rfl ?_
      intro aq wq hNq hO hR hT
      exact does_field (o' := 0) fld_24_0 ((hO 2 rfl).trans s2_2) rfl ⟨Ext.refl _, rfl⟩
    · refine Ask.plain rfl rfl ?_
      intro aq wq hNq hO hR hT
      exact does_loadD1 (o := 0) (V := x1) (hT 12 rfl rfl) (hbb2_2.ext' hR) rfl one_22 ⟨Ext.refl _, rfl⟩
    · refine Ask.plain rfl rfl ?_
      intro aq wq hNq hO hR hT
      exact does_len (T := Str) (xs := items) sli_22 (SlT.at (hT 13 rfl rfl) (hsx1_2.ext' hR)) ⟨Ext.refl _, rfl⟩
    · refine Ask.plain rfl rfl ?_
      intro aq wq hNq hO hR hT
      exact does_gtr (a := h.size) (b := ((items.length : Nat) : Int)) (hT 11 rfl rfl) (hT 14 rfl rfl) ⟨Ext.refl _, rfl⟩
    · refine Ask.plain rfl rfl ?_
      intro aq wq hNq hO hR hT
      exact does_assign (V := Value.bool (decide (((items.length : Nat) : Int) < h.size))) (hT 15 rfl rfl) ⟨Ext.refl _, rfl⟩
  intro a4 wd4 hN_4 hD_4 hO hR hA hU
  obtain ⟨_, _, _, _, _, _, t9, _⟩ := hA
  have hE_4 := hE_2.trans hR
  have s2_4 := (hO 2 rfl).trans s2_2
  have s3_4 := (hO 3 rfl).trans s3_2
  have hbb2_4 := hbb2_2.ext' hR
  have hbb3_4 := hbb3_2.ext' hR
  have hsx1_4 := hsx1_2.ext' hR
  have s9_4 : get a4 9 = Value.bool (decide (((items.length : Nat) : Int) < h.size)) := t9
  clear hE_2 hN_2 hD_2 s2_2 s3_2 s5_2 hbb2_2 hbb3_2 hsx1_2
  refine tail_nil ?_
  refine wp_if (B := decide (((items.length : Nat) : Int) < h.size)) s9_4 (fun hc1 => ?_) (fun hc1 => ?_)
  · -- T 1
    have hc1 := of_decide_eq_true hc1
    refine wp_seq ?_
    refine region_lex [] [(4, Pr.ex (i64 ((6 : Nat) : Int)))] 1 hN_4 hD_4 (by kernel_rfl) (by kernel_rfl) ?_ ?_
    · refine Asks.cons ?_ (Asks.zero _)
      · refine Ask.plain rfl rfl ?_
        intro aq wq hNq hO hR hT
        exact does_assign (V := i64 ((6 : Nat) : Int)) rfl ⟨Ext.refl _, rfl⟩
    intro a5 wd5 hN_5 hD_5 hO hR hA hU
    obtain ⟨t4, _⟩ := hA
    have hE_5 := hE_4.trans hR
    have hbb2_5 := hbb2_4.ext' hR
    have hbb3_5 := hbb3_4.ext' hR
    have hsx1_5 := hsx1_4.ext' hR
    have s4_5 : get a5 4 = i64 ((6 : Nat) : Int) := t4
    clear hE_4 hN_4 hD_4 s2_4 s3_4 s9_4 hbb2_4 hbb3_4 hsx1_4
    refine tail_nil ?_
    refine wp_ret ?_
    refine res_one (V := i64 ((6 : Nat) : Int)) rfl hD_5 s4_5 ?_
    exact ⟨by show i64 _ = i64 _; rw [lost_none hc0 hc1], hE_5⟩
  have hc1 := of_decide_eq_false hc1
  refine wp_seq ?_
  refine region_any [] [(17, Pr.ex (Value.pointer (some ⟨b2, 0, none⟩))), (18, Pr.ex (x1)), (19, Pr.ex (Value.pointer (some ⟨b3, 0, none⟩))), (20, Pr.ex (i64 (h.size))), (21, Pr.sl' Str 0 (w0.heap.size + 1) (items.take (h.size).toNat)), (22, Pr.ag (fun x => Value.agg #[x]) (Pr.sl' Str 0 (w0.heap.size + 1) (items.take (h.size).toNat))), (23, Pr.ex (Value.agg #[i64 (((items.take (h.size).toNat).length : Nat) : Int), w32 (root ((items.take (h.size).toNat).map of)).a, w32 (root ((items.take (h.size).toNat).map of)).b, w32 (root ((items.take (h.size).toNat).map of)).c, w32 (root ((items.take (h.size).toNat).map of)).d])), (24, Pr.ex (Value.agg #[i64 (h.size), w32 (h.root).a, w32 (h.root).b, w32 (h.root).c, w32 (h.root).d])), (25, Pr.ex (Value.bool (!decide ((⟨(((items.take (h.size).toNat).length : Nat) : Int), root ((items.take (h.size).toNat).map of)⟩ : Head) = (⟨h.size, h.root⟩ : Head))))), (16, Pr.ex (Value.bool (!decide ((⟨(((items.take (h.size).toNat).length : Nat) : Int), root ((items.take (h.size).toNat).map of)⟩ : Head) = (⟨h.size, h.root⟩ : Head)))))] 10 mixed hN_4 hD_4 (by kernel_rfl) (by kernel_rfl) (by kernel_rfl) ?_ ?_
  · refine Asks.cons ?_ (Asks.cons ?_ (Asks.cons ?_ (Asks.cons ?_ (Asks.cons ?_ (Asks.cons ?_ (Asks.cons ?_ (Asks.cons ?_ (Asks.cons ?_ (Asks.cons ?_ (Asks.zero _))))))))))
    · refine Ask.plain rfl rfl ?_
      intro aq wq hNq hO hR hT
      replace hR := (Ext.drew _).trans hR
      exact does_field (o' := 0) fld_24_0 ((hO 2 rfl).trans s2_4) rfl ⟨Ext.refl _, rfl⟩
    · refine Ask.plain rfl rfl ?_
      intro aq wq hNq hO hR hT
      replace hR := (Ext.drew _).trans hR
      exact does_loadD1 (o := 0) (V := x1) (hT 17 rfl rfl) (hbb2_4.ext' hR) rfl one_22 ⟨Ext.refl _, rfl⟩
    · refine Ask.plain rfl rfl ?_
      intro aq wq hNq hO hR hT
      replace hR := (Ext.drew _).trans hR
      exact does_field (o' := 0) fld_29_0 ((hO 3 rfl).trans s3_4) rfl ⟨Ext.refl _, rfl⟩
    · refine Ask.plain rfl rfl ?_
      intro aq wq hNq hO hR hT
      replace hR := (Ext.drew _).trans hR
      exact does_loadD1 (o := 0) (V := i64 (h.size)) (hT 19 rfl rfl) (hbb3_4.ext' hR) rfl one_3 ⟨Ext.refl _, rfl⟩
    · refine Ask.plain rfl rfl ?_
      intro aq wq hNq hO hR hT
      replace hR := (Ext.drew _).trans hR
      exact does_sliceHi (T := Str) (xs := items) (k := h.size) sli_22 rfl (SlT.at (hT 18 rfl rfl) (hsx1_4.ext' hR)) (hT 20 rfl rfl) (by omega) (by omega) (fun v h => ⟨Ext.refl _, h⟩)
    · refine Ask.plain rfl rfl ?_
      intro aq wq hNq hO hR hT
      replace hR := (Ext.drew _).trans hR
      exact does_build (vs := #[(0, get aq 21)]) (V := Value.agg #[get aq 21]) (parts1 rfl) (by obtain ⟨sa0, sc0, hv0, _⟩ := (hT 21 rfl rfl); rw [hv0]; kernel_rfl) ⟨Ext.refl _, ⟨get aq 21, rfl, (hT 21 rfl rfl)⟩⟩
    · refine Ask.plain rfl rfl ?_
      intro aq wq hNq hO hR hT
      replace hR := (Ext.drew _).trans hR
      obtain ⟨z22_0, hz22, kz22_0⟩ := (hT 22 rfl rfl)
      exact does_ret (vs := #[Value.agg #[z22_0]]) call_18 (args1 hz22) rfl ((shead (items.take (h.size).toNat) (z22_0) wq (hL.ext (hE_4.trans hR)) (kz22_0.wide (Nat.zero_le _) (.inl rfl)) (fun x hx => hs x (List.mem_of_mem_take hx)) (by simp only [List.length_take]; omega)).mono fun v w2 h => ⟨h.2, h.1⟩)
    · refine Ask.plain rfl rfl ?_
      intro aq wq hNq hO hR hT
      replace hR := (Ext.drew _).trans hR
      exact does_loadD (o := 0) (n := 5) (mid := [i64 (h.size), w32 (h.root).a, w32 (h.root).b, w32 (h.root).c, w32 (h.root).d]) ((hO 3 rfl).trans s3_4) (hbb3_4.ext' hR) rfl rfl (Nat.le_of_ble_eq_true rfl) row_29 rfl ⟨Ext.refl _, rfl⟩
    · refine Ask.plain rfl rfl ?_
      intro aq wq hNq hO hR hT
      replace hR := (Ext.drew _).trans hR
      exact does_neT (a := (⟨(((items.take (h.size).toNat).length : Nat) : Int), root ((items.take (h.size).toNat).map of)⟩ : Head)) (b := (⟨h.size, h.root⟩ : Head)) eq_29 (hT 23 rfl rfl) (hT 24 rfl rfl) ⟨Ext.refl _, rfl⟩
    · refine Ask.plain rfl rfl ?_
      intro aq wq hNq hO hR hT
      replace hR := (Ext.drew _).trans hR
      exact does_assign (V := Value.bool (!decide ((⟨(((items.take (h.size).toNat).length : Nat) : Int), root ((items.take (h.size).toNat).map of)⟩ : Head) = (⟨h.size, h.root⟩ : Head)))) (hT 25 rfl rfl) ⟨Ext.refl _, rfl⟩
  intro a6 wd6 hN_6 hD_6 hO hR hA hU
  obtain ⟨_, _, _, _, _, _, _, _, _, t16, _⟩ := hA
  have hE_6 := hE_4.trans hR
  have hbb2_6 := hbb2_4.ext' hR
  have hbb3_6 := hbb3_4.ext' hR
  have hsx1_6 := hsx1_4.ext' hR
  have s16_6 : get a6 16 = Value.bool (!decide ((⟨(((items.take (h.size).toNat).length : Nat) : Int), root ((items.take (h.size).toNat).map of)⟩ : Head) = (⟨h.size, h.root⟩ : Head))) := t16
  clear hE_4 hN_4 hD_4 s2_4 s3_4 s9_4 hbb2_4 hbb3_4 hsx1_4
  refine tail_nil ?_
  refine wp_if (B := !decide ((⟨(((items.take (h.size).toNat).length : Nat) : Int), root ((items.take (h.size).toNat).map of)⟩ : Head) = (⟨h.size, h.root⟩ : Head))) s16_6 (fun hc2 => ?_) (fun hc2 => ?_)
  · -- T 2
    have hc2 := of_decide_eq_false (bn hc2)
    refine wp_seq ?_
    refine region_lex [] [(4, Pr.ex (i64 ((8 : Nat) : Int)))] 1 hN_6 hD_6 (by kernel_rfl) (by kernel_rfl) ?_ ?_
    · refine Asks.cons ?_ (Asks.zero _)
      · refine Ask.plain rfl rfl ?_
        intro aq wq hNq hO hR hT
        exact does_assign (V := i64 ((8 : Nat) : Int)) rfl ⟨Ext.refl _, rfl⟩
    intro a7 wd7 hN_7 hD_7 hO hR hA hU
    obtain ⟨t4, _⟩ := hA
    have hE_7 := hE_6.trans hR
    have hbb2_7 := hbb2_6.ext' hR
    have hbb3_7 := hbb3_6.ext' hR
    have hsx1_7 := hsx1_6.ext' hR
    have s4_7 : get a7 4 = i64 ((8 : Nat) : Int) := t4
    clear hE_6 hN_6 hD_6 s16_6 hbb2_6 hbb3_6 hsx1_6
    refine tail_nil ?_
    refine wp_ret ?_
    refine res_one (V := i64 ((8 : Nat) : Int)) rfl hD_7 s4_7 ?_
    exact ⟨by show i64 _ = i64 _; rw [lost_bad hc0 hc1 (mt (head_take hc0 hc1).2 hc2)], hE_7⟩
  have hc2 := of_decide_eq_true (bn' hc2)
  refine wp_skip ?_
  refine wp_seq ?_
  refine region_lex [] [(4, Pr.ex (i64 ((0 : Nat) : Int)))] 1 hN_6 hD_6 (by kernel_rfl) (by kernel_rfl) ?_ ?_
  · refine Asks.cons ?_ (Asks.zero _)
    · refine Ask.plain rfl rfl ?_
      intro aq wq hNq hO hR hT
      exact does_assign (V := i64 ((0 : Nat) : Int)) rfl ⟨Ext.refl _, rfl⟩
  intro a8 wd8 hN_8 hD_8 hO hR hA hU
  obtain ⟨t4, _⟩ := hA
  have hE_8 := hE_6.trans hR
  have hbb2_8 := hbb2_6.ext' hR
  have hbb3_8 := hbb3_6.ext' hR
  have hsx1_8 := hsx1_6.ext' hR
  have s4_8 : get a8 4 = i64 ((0 : Nat) : Int) := t4
  clear hE_6 hN_6 hD_6 s16_6 hbb2_6 hbb3_6 hsx1_6
  refine tail_nil ?_
  refine wp_ret ?_
  refine res_one (V := i64 ((0 : Nat) : Int)) rfl hD_8 s4_8 ?_
  exact ⟨by show i64 _ = i64 _; rw [lost_ok hc0 hc1 ((head_take hc0 hc1).1 hc2)], hE_8⟩

theorem alive43  (w0 : World) (hL : Laid w0) :
    Gives Tryd.prog 12 #[] w0 (Pr.ex (Value.bool true)) := by
  refine enter (N := 30) Tryd.func12 rfl rfl ?_
  intro a0 hN_0 hD_0 hA
  clear hA
  have hE_0 : Ext w0 w0 := Ext.refl w0
  refine wp_seq ?_
  refine region_lex [] [(0, Pr.ex (Value.bool (false)))] 1 hN_0 hD_0 (by kernel_rfl) (by kernel_rfl) ?_ ?_
  · refine Asks.cons ?_ (Asks.zero _)
    · refine Ask.plain rfl rfl ?_
      intro aq wq hNq hO hR hT
      exact does_assign (V := Value.bool (false)) rfl ⟨Ext.refl _, rfl⟩
  intro a1 wd1 hN_1 hD_1 hO hR hA hU
  obtain ⟨_, _⟩ := hA
  have hE_1 := hE_0.trans hR
  clear hE_0 hN_0 hD_0
  refine tail_nil ?_
  refine wp_seq ?_
  refine region_lex [] [(3, Pr.own' Str wd1.heap.size 9 ([([97, 98] : List UInt8)])), (4, Pr.ag (fun x => Value.agg #[x]) (Pr.own' Str wd1.heap.size 9 ([([97, 98] : List UInt8)])))] 2 hN_1 hD_1 (by kernel_rfl) (by kernel_rfl) ?_ ?_
  · refine Asks.cons ?_ (Asks.cons ?_ (Asks.zero _))
    · refine Ask.plain rfl rfl ?_
      intro aq wq hNq hO hR hT
      exact does_slice1 (T := Str) (X := ([97, 98] : List UInt8)) (V := str (([97, 98] : List UInt8))) app_22 rfl (by decide) rfl rfl (fun v w2 he _ ho => ⟨he, OwnT.base ho hR.size'⟩)
    · refine Ask.plain rfl rfl ?_
      intro aq wq hNq hO hR hT
      exact does_build (vs := #[(0, get aq 3)]) (V := Value.agg #[get aq 3]) (parts1 rfl) (by obtain ⟨sa0, sc0, hv0, _⟩ := (OwnT.sl (hT 3 rfl rfl)); rw [hv0]; kernel_rfl) ⟨Ext.refl _, ⟨get aq 3, rfl, (hT 3 rfl rfl)⟩⟩
  intro a2 wd2 hN_2 hD_2 hO hR hA hU
  obtain ⟨_, t4, _⟩ := hA
  have hE_2 := hE_1.trans hR
  obtain ⟨x4_0_2, s4_2, ky4_0_2⟩ := t4
  replace ky4_0_2 : OwnT Str wd1.heap.size 9 ([([97, 98] : List UInt8)]) x4_0_2 wd2 := ky4_0_2
  have hsx4_0_2_2 := ky4_0_2.sl.wide (Nat.zero_le _) (.inl rfl)
  have hox4_0_2_2 := OwnT.base ky4_0_2 hE_1.size'
  clear hE_1 hN_1 hD_1
  refine tail_put rfl rfl hN_2 hD_2 (by decide) (does_alloc zero_24 (fun b1 wd3 he lo_b1 hbb1_3 => fun a3 hN_3 hD_3 hv hO => ?_))
  have s1_3 := hv
  have hE_3 := hE_2.trans he
  have hsx4_0_2_3 := hsx4_0_2_2.ext' he
  have hox4_0_2_3 := hox4_0_2_2.ext' he
  have fr_b1 : w0.heap.size ≤ b1 := Nat.le_trans hE_2.size' lo_b1
  have nb_x4_0_2_b1 := SlT.old hsx4_0_2_2 lo_b1
  have nbo_x4_0_2_b1 : x4_0_2.ownBlock ≠ some b1 := fun e => Nat.lt_irrefl _ (Nat.lt_of_lt_of_le (OwnT.block_lt hox4_0_2_2 e).2 lo_b1)
  have s4_3 := (hO 4 rfl).trans s4_2
  clear hO hv hN_2 hD_2 hE_2 hsx4_0_2_2 hox4_0_2_2 s4_2
  refine tail_none rfl rfl (does_storeD (o := 0) (n := 1) (cs' := [x4_0_2]) (V := Value.agg #[x4_0_2]) s1_3 s4_3 hbb1_3 (Nat.le_of_ble_eq_true rfl) rfl siz_24 (one_cons (SlT.one hsx4_0_2_3) one_nil) rfl (fun wd4 hX hz hbb1_4 => ?_))
  have hE_4 := hE_3.since hX (fun k e => e ▸ fr_b1)
  have hsx4_0_2_4 := SlT.over hsx4_0_2_3 hX nb_x4_0_2_b1
  have hox4_0_2_4 := OwnT.ext hox4_0_2_3 hX (fun k hk e => nbo_x4_0_2_b1 (e ▸ hk))
  clear hX hz hE_3 hbb1_3 hsx4_0_2_3 hox4_0_2_3
  refine tail_nil ?_
  refine wp_seq ?_
  refine region_lex [2] [(5, Pr.ex (Value.agg #[x4_0_2])), (6, Pr.ex (Value.agg #[i64 ((([([97, 98] : List UInt8)]).length : Nat) : Int), w32 (root (([([97, 98] : List UInt8)]).map of)).a, w32 (root (([([97, 98] : List UInt8)]).map of)).b, w32 (root (([([97, 98] : List UInt8)]).map of)).c, w32 (root (([([97, 98] : List UInt8)]).map of)).d])), (2, Pr.box' wd4.heap.size 29 [i64 ((0 : Nat) : Int), w32 (Dg.zero).a, w32 (Dg.zero).b, w32 (Dg.zero).c, w32 (Dg.zero).d])] 3 hN_3 hD_3 (by kernel_rfl) (by kernel_rfl) ?_ ?_
  · refine Asks.cons ?_ (Asks.cons ?_ (Asks.cons ?_ (Asks.zero _)))
    · refine Ask.plain rfl rfl ?_
      intro aq wq hNq hO hR hT
      exact does_loadD (o := 0) (n := 1) (mid := [x4_0_2]) ((hO 1 rfl).trans s1_3) (hbb1_4.ext' hR) rfl rfl (Nat.le_of_ble_eq_true rfl) row_24 rfl ⟨Ext.refl _, rfl⟩
    · refine Ask.plain rfl rfl ?_
      intro aq wq hNq hO hR hT
      exact does_ret (vs := #[Value.agg #[x4_0_2]]) call_18 (args1 (hT 5 rfl rfl)) rfl ((shead ([([97, 98] : List UInt8)]) (x4_0_2) wq (hL.ext (hE_4.trans hR)) ((hsx4_0_2_4.ext' hR).wide (Nat.zero_le _) (.inl rfl)) (by decide) (by decide)).mono fun v w2 h => ⟨h.2, h.1⟩)
    · refine Ask.fresh rfl rfl ?_
      intro aq wq hNq hO hR hT
      exact does_alloc zero_29 (fun b w2 he hlo hb => ⟨he, ⟨b, rfl, Nat.le_trans hR.size' hlo, hb⟩, ⟨b, rfl, hlo, hb.lt⟩⟩)
  intro a5 wd5 hN_5 hD_5 hO hR hA hU
  obtain ⟨_, t6, t2, _⟩ := hA
  have hE_5 := hE_4.trans hR
  have s1_5 := (hO 1 rfl).trans s1_3
  have hbb1_5 := hbb1_4.ext' hR
  have hsx4_0_2_5 := hsx4_0_2_4.ext' hR
  have hox4_0_2_5 := hox4_0_2_4.ext' hR
  have s6_5 : get a5 6 = Value.agg #[i64 ((([([97, 98] : List UInt8)]).length : Nat) : Int), w32 (root (([([97, 98] : List UInt8)]).map of)).a, w32 (root (([([97, 98] : List UInt8)]).map of)).b, w32 (root (([([97, 98] : List UInt8)]).map of)).c, w32 (root (([([97, 98] : List UInt8)]).map of)).d] := t6
  obtain ⟨b2, s2_5, lo_b2, hbb2_5⟩ := t2
  have ne_b1_b2 : b1 ≠ b2 := fun e => Nat.lt_irrefl _ (Nat.lt_of_lt_of_le hbb1_4.lt (e ▸ lo_b2))
  have nb_x4_0_2_b2 := SlT.old hsx4_0_2_4 lo_b2
  have nbo_x4_0_2_b2 : x4_0_2.ownBlock ≠ some b2 := fun e => Nat.lt_irrefl _ (Nat.lt_of_lt_of_le (OwnT.block_lt hox4_0_2_4 e).2 lo_b2)
  have fr_b2 : w0.heap.size ≤ b2 := Nat.le_trans hE_4.size' lo_b2
  clear hE_4 hN_3 hD_3 s1_3 s4_3 hbb1_4 hsx4_0_2_4 hox4_0_2_4
  refine tail_none rfl rfl (does_storeD (o := 0) (n := 5) (cs' := [i64 ((([([97, 98] : List UInt8)]).length : Nat) : Int), w32 (root (([([97, 98] : List UInt8)]).map of)).a, w32 (root (([([97, 98] : List UInt8)]).map of)).b, w32 (root (([([97, 98] : List UInt8)]).map of)).c, w32 (root (([([97, 98] : List UInt8)]).map of)).d]) (V := Value.agg #[i64 ((([([97, 98] : List UInt8)]).length : Nat) : Int), w32 (root (([([97, 98] : List UInt8)]).map of)).a, w32 (root (([([97, 98] : List UInt8)]).map of)).b, w32 (root (([([97, 98] : List UInt8)]).map of)).c, w32 (root (([([97, 98] : List UInt8)]).map of)).d]) s2_5 s6_5 hbb2_5 (Nat.le_of_ble_eq_true rfl) rfl siz_29 rfl rfl (fun wd6 hX hz hbb2_6 => ?_))
  have hE_6 := hE_5.since hX (fun k e => e ▸ fr_b2)
  have hbb1_6 := hbb1_5.ext hX ne_b1_b2
  have hsx4_0_2_6 := SlT.over hsx4_0_2_5 hX nb_x4_0_2_b2
  have hox4_0_2_6 := OwnT.ext hox4_0_2_5 hX (fun k hk e => nbo_x4_0_2_b2 (e ▸ hk))
  clear hX hz hE_5 hbb1_5 hbb2_5 hsx4_0_2_5 hox4_0_2_5
  refine tail_nil ?_
  refine wp_seq ?_
  refine region_any [] [(7, Pr.ex (Value.agg #[i64 ((([([97, 98] : List UInt8)]).length : Nat) : Int), w32 (root (([([97, 98] : List UInt8)]).map of)).a, w32 (root (([([97, 98] : List UInt8)]).map of)).b, w32 (root (([([97, 98] : List UInt8)]).map of)).c, w32 (root (([([97, 98] : List UInt8)]).map of)).d])), (8, Pr.ex (Dg.val (of (([97, 98] : List UInt8))))), (9, Pr.ex (Value.agg #[i64 ((1 : Nat) : Int), w32 (of (([97, 98] : List UInt8))).a, w32 (of (([97, 98] : List UInt8))).b, w32 (of (([97, 98] : List UInt8))).c, w32 (of (([97, 98] : List UInt8))).d])), (10, Pr.ex (Value.bool (decide ((⟨((([([97, 98] : List UInt8)]).length : Nat) : Int), root (([([97, 98] : List UInt8)]).map of)⟩ : Head) = (⟨((1 : Nat) : Int), of (([97, 98] : List UInt8))⟩ : Head))))), (11, Pr.ex (Value.bool (decide ((⟨((([([97, 98] : List UInt8)]).length : Nat) : Int), root (([([97, 98] : List UInt8)]).map of)⟩ : Head) = (⟨((1 : Nat) : Int), of (([97, 98] : List UInt8))⟩ : Head))))), (12, Pr.ifb (decide ((⟨((([([97, 98] : List UInt8)]).length : Nat) : Int), root (([([97, 98] : List UInt8)]).map of)⟩ : Head) = (⟨((1 : Nat) : Int), of (([97, 98] : List UInt8))⟩ : Head))) (Pr.ex (Value.agg #[x4_0_2]))), (13, Pr.ifb (decide ((⟨((([([97, 98] : List UInt8)]).length : Nat) : Int), root (([([97, 98] : List UInt8)]).map of)⟩ : Head) = (⟨((1 : Nat) : Int), of (([97, 98] : List UInt8))⟩ : Head))) (Pr.ex (Value.agg #[i64 ((([([97, 98] : List UInt8)]).length : Nat) : Int), w32 (root (([([97, 98] : List UInt8)]).map of)).a, w32 (root (([([97, 98] : List UInt8)]).map of)).b, w32 (root (([([97, 98] : List UInt8)]).map of)).c, w32 (root (([([97, 98] : List UInt8)]).map of)).d]))), (14, Pr.ifb (decide ((⟨((([([97, 98] : List UInt8)]).length : Nat) : Int), root (([([97, 98] : List UInt8)]).map of)⟩ : Head) = (⟨((1 : Nat) : Int), of (([97, 98] : List UInt8))⟩ : Head))) (Pr.ex (i64 ((lost ([([97, 98] : List UInt8)]) (⟨((([([97, 98] : List UInt8)]).length : Nat) : Int), root (([([97, 98] : List UInt8)]).map of)⟩ : Head) : Nat) : Int)))), (15, Pr.ifb (decide ((⟨((([([97, 98] : List UInt8)]).length : Nat) : Int), root (([([97, 98] : List UInt8)]).map of)⟩ : Head) = (⟨((1 : Nat) : Int), of (([97, 98] : List UInt8))⟩ : Head))) (Pr.ex (Value.bool (decide (((lost ([([97, 98] : List UInt8)]) (⟨((([([97, 98] : List UInt8)]).length : Nat) : Int), root (([([97, 98] : List UInt8)]).map of)⟩ : Head) : Nat) : Int) = ((0 : Nat) : Int)))))), (16, Pr.ex (Value.bool ((decide ((⟨((([([97, 98] : List UInt8)]).length : Nat) : Int), root (([([97, 98] : List UInt8)]).map of)⟩ : Head) = (⟨((1 : Nat) : Int), of (([97, 98] : List UInt8))⟩ : Head))) && (decide (((lost ([([97, 98] : List UInt8)]) (⟨((([([97, 98] : List UInt8)]).length : Nat) : Int), root (([([97, 98] : List UInt8)]).map of)⟩ : Head) : Nat) : Int) = ((0 : Nat) : Int)))))), (17, Pr.ex (Value.bool ((decide ((⟨((([([97, 98] : List UInt8)]).length : Nat) : Int), root (([([97, 98] : List UInt8)]).map of)⟩ : Head) = (⟨((1 : Nat) : Int), of (([97, 98] : List UInt8))⟩ : Head))) && (decide (((lost ([([97, 98] : List UInt8)]) (⟨((([([97, 98] : List UInt8)]).length : Nat) : Int), root (([([97, 98] : List UInt8)]).map of)⟩ : Head) : Nat) : Int) = ((0 : Nat) : Int)))))), (18, Pr.ifb ((decide ((⟨((([([97, 98] : List UInt8)]).length : Nat) : Int), root (([([97, 98] : List UInt8)]).map of)⟩ : Head) = (⟨((1 : Nat) : Int), of (([97, 98] : List UInt8))⟩ : Head))) && (decide (((lost ([([97, 98] : List UInt8)]) (⟨((([([97, 98] : List UInt8)]).length : Nat) : Int), root (([([97, 98] : List UInt8)]).map of)⟩ : Head) : Nat) : Int) = ((0 : Nat) : Int)))) (Pr.ex (Value.agg #[Value.slice none 0 0]))), (19, Pr.ifb ((decide ((⟨((([([97, 98] : List UInt8)]).length : Nat) : Int), root (([([97, 98] : List UInt8)]).map of)⟩ : Head) = (⟨((1 : Nat) : Int), of (([97, 98] : List UInt8))⟩ : Head))) && (decide (((lost ([([97, 98] : List UInt8)]) (⟨((([([97, 98] : List UInt8)]).length : Nat) : Int), root (([([97, 98] : List UInt8)]).map of)⟩ : Head) : Nat) : Int) = ((0 : Nat) : Int)))) (Pr.ex (Value.agg #[i64 ((([([97, 98] : List UInt8)]).length : Nat) : Int), w32 (root (([([97, 98] : List UInt8)]).map of)).a, w32 (root (([([97, 98] : List UInt8)]).map of)).b, w32 (root (([([97, 98] : List UInt8)]).map of)).c, w32 (root (([([97, 98] : List UInt8)]).map of)).d]))), (20, Pr.ifb ((decide ((⟨((([([97, 98] : List UInt8)]).length : Nat) : Int), root (([([97, 98] : List UInt8)]).map of)⟩ : Head) = (⟨((1 : Nat) : Int), of (([97, 98] : List UInt8))⟩ : Head))) && (decide (((lost ([([97, 98] : List UInt8)]) (⟨((([([97, 98] : List UInt8)]).length : Nat) : Int), root (([([97, 98] : List UInt8)]).map of)⟩ : Head) : Nat) : Int) = ((0 : Nat) : Int)))) (Pr.ex (i64 ((lost [] (⟨((([([97, 98] : List UInt8)]).length : Nat) : Int), root (([([97, 98] : List UInt8)]).map of)⟩ : Head) : Nat) : Int)))), (21, Pr.ifb ((decide ((⟨((([([97, 98] : List UInt8)]).length : Nat) : Int), root (([([97, 98] : List UInt8)]).map of)⟩ : Head) = (⟨((1 : Nat) : Int), of (([97, 98] : List UInt8))⟩ : Head))) && (decide (((lost ([([97, 98] : List UInt8)]) (⟨((([([97, 98] : List UInt8)]).length : Nat) : Int), root (([([97, 98] : List UInt8)]).map of)⟩ : Head) : Nat) : Int) = ((0 : Nat) : Int)))) (Pr.ex (Value.bool (decide (((lost [] (⟨((([([97, 98] : List UInt8)]).length : Nat) : Int), root (([([97, 98] : List UInt8)]).map of)⟩ : Head) : Nat) : Int) = ((6 : Nat) : Int)))))), (22, Pr.ex (Value.bool (((decide ((⟨((([([97, 98] : List UInt8)]).length : Nat) : Int), root (([([97, 98] : List UInt8)]).map of)⟩ : Head) = (⟨((1 : Nat) : Int), of (([97, 98] : List UInt8))⟩ : Head))) && (decide (((lost ([([97, 98] : List UInt8)]) (⟨((([([97, 98] : List UInt8)]).length : Nat) : Int), root (([([97, 98] : List UInt8)]).map of)⟩ : Head) : Nat) : Int) = ((0 : Nat) : Int)))) && (decide (((lost [] (⟨((([([97, 98] : List UInt8)]).length : Nat) : Int), root (([([97, 98] : List UInt8)]).map of)⟩ : Head) : Nat) : Int) = ((6 : Nat) : Int)))))), (23, Pr.ex (Value.bool (((decide ((⟨((([([97, 98] : List UInt8)]).length : Nat) : Int), root (([([97, 98] : List UInt8)]).map of)⟩ : Head) = (⟨((1 : Nat) : Int), of (([97, 98] : List UInt8))⟩ : Head))) && (decide (((lost ([([97, 98] : List UInt8)]) (⟨((([([97, 98] : List UInt8)]).length : Nat) : Int), root (([([97, 98] : List UInt8)]).map of)⟩ : Head) : Nat) : Int) = ((0 : Nat) : Int)))) && (decide (((lost [] (⟨((([([97, 98] : List UInt8)]).length : Nat) : Int), root (([([97, 98] : List UInt8)]).map of)⟩ : Head) : Nat) : Int) = ((6 : Nat) : Int)))))), (24, Pr.ifb (((decide ((⟨((([([97, 98] : List UInt8)]).length : Nat) : Int), root (([([97, 98] : List UInt8)]).map of)⟩ : Head) = (⟨((1 : Nat) : Int), of (([97, 98] : List UInt8))⟩ : Head))) && (decide (((lost ([([97, 98] : List UInt8)]) (⟨((([([97, 98] : List UInt8)]).length : Nat) : Int), root (([([97, 98] : List UInt8)]).map of)⟩ : Head) : Nat) : Int) = ((0 : Nat) : Int)))) && (decide (((lost [] (⟨((([([97, 98] : List UInt8)]).length : Nat) : Int), root (([([97, 98] : List UInt8)]).map of)⟩ : Head) : Nat) : Int) = ((6 : Nat) : Int)))) (Pr.ex (Value.agg #[Value.slice none 0 0]))), (25, Pr.ifb (((decide ((⟨((([([97, 98] : List UInt8)]).length : Nat) : Int), root (([([97, 98] : List UInt8)]).map of)⟩ : Head) = (⟨((1 : Nat) : Int), of (([97, 98] : List UInt8))⟩ : Head))) && (decide (((lost ([([97, 98] : List UInt8)]) (⟨((([([97, 98] : List UInt8)]).length : Nat) : Int), root (([([97, 98] : List UInt8)]).map of)⟩ : Head) : Nat) : Int) = ((0 : Nat) : Int)))) && (decide (((lost [] (⟨((([([97, 98] : List UInt8)]).length : Nat) : Int), root (([([97, 98] : List UInt8)]).map of)⟩ : Head) : Nat) : Int) = ((6 : Nat) : Int)))) (Pr.ex (Dg.val (of (([] : List UInt8)))))), (26, Pr.ifb (((decide ((⟨((([([97, 98] : List UInt8)]).length : Nat) : Int), root (([([97, 98] : List UInt8)]).map of)⟩ : Head) = (⟨((1 : Nat) : Int), of (([97, 98] : List UInt8))⟩ : Head))) && (decide (((lost ([([97, 98] : List UInt8)]) (⟨((([([97, 98] : List UInt8)]).length : Nat) : Int), root (([([97, 98] : List UInt8)]).map of)⟩ : Head) : Nat) : Int) = ((0 : Nat) : Int)))) && (decide (((lost [] (⟨((([([97, 98] : List UInt8)]).length : Nat) : Int), root (([([97, 98] : List UInt8)]).map of)⟩ : Head) : Nat) : Int) = ((6 : Nat) : Int)))) (Pr.ex (Value.agg #[i64 ((0 : Nat) : Int), w32 (of (([] : List UInt8))).a, w32 (of (([] : List UInt8))).b, w32 (of (([] : List UInt8))).c, w32 (of (([] : List UInt8))).d]))), (27, Pr.ifb (((decide ((⟨((([([97, 98] : List UInt8)]).length : Nat) : Int), root (([([97, 98] : List UInt8)]).map of)⟩ : Head) = (⟨((1 : Nat) : Int), of (([97, 98] : List UInt8))⟩ : Head))) && (decide (((lost ([([97, 98] : List UInt8)]) (⟨((([([97, 98] : List UInt8)]).length : Nat) : Int), root (([([97, 98] : List UInt8)]).map of)⟩ : Head) : Nat) : Int) = ((0 : Nat) : Int)))) && (decide (((lost [] (⟨((([([97, 98] : List UInt8)]).length : Nat) : Int), root (([([97, 98] : List UInt8)]).map of)⟩ : Head) : Nat) : Int) = ((6 : Nat) : Int)))) (Pr.ex (i64 ((lost [] (⟨((0 : Nat) : Int), of (([] : List UInt8))⟩ : Head) : Nat) : Int)))), (28, Pr.ifb (((decide ((⟨((([([97, 98] : List UInt8)]).length : Nat) : Int), root (([([97, 98] : List UInt8)]).map of)⟩ : Head) = (⟨((1 : Nat) : Int), of (([97, 98] : List UInt8))⟩ : Head))) && (decide (((lost ([([97, 98] : List UInt8)]) (⟨((([([97, 98] : List UInt8)]).length : Nat) : Int), root (([([97, 98] : List UInt8)]).map of)⟩ : Head) : Nat) : Int) = ((0 : Nat) : Int)))) && (decide (((lost [] (⟨((([([97, 98] : List UInt8)]).length : Nat) : Int), root (([([97, 98] : List UInt8)]).map of)⟩ : Head) : Nat) : Int) = ((6 : Nat) : Int)))) (Pr.ex (Value.bool (decide (((lost [] (⟨((0 : Nat) : Int), of (([] : List UInt8))⟩ : Head) : Nat) : Int) = ((0 : Nat) : Int)))))), (29, Pr.ex (Value.bool ((((decide ((⟨((([([97, 98] : List UInt8)]).length : Nat) : Int), root (([([97, 98] : List UInt8)]).map of)⟩ : Head) = (⟨((1 : Nat) : Int), of (([97, 98] : List UInt8))⟩ : Head))) && (decide (((lost ([([97, 98] : List UInt8)]) (⟨((([([97, 98] : List UInt8)]).length : Nat) : Int), root (([([97, 98] : List UInt8)]).map of)⟩ : Head) : Nat) : Int) = ((0 : Nat) : Int)))) && (decide (((lost [] (⟨((([([97, 98] : List UInt8)]).length : Nat) : Int), root (([([97, 98] : List UInt8)]).map of)⟩ : Head) : Nat) : Int) = ((6 : Nat) : Int)))) && (decide (((lost [] (⟨((0 : Nat) : Int), of (([] : List UInt8))⟩ : Head) : Nat) : Int) = ((0 : Nat) : Int)))))), (0, Pr.ex (Value.bool ((((decide ((⟨((([([97, 98] : List UInt8)]).length : Nat) : Int), root (([([97, 98] : List UInt8)]).map of)⟩ : Head) = (⟨((1 : Nat) : Int), of (([97, 98] : List UInt8))⟩ : Head))) && (decide (((lost ([([97, 98] : List UInt8)]) (⟨((([([97, 98] : List UInt8)]).length : Nat) : Int), root (([([97, 98] : List UInt8)]).map of)⟩ : Head) : Nat) : Int) = ((0 : Nat) : Int)))) && (decide (((lost [] (⟨((([([97, 98] : List UInt8)]).length : Nat) : Int), root (([([97, 98] : List UInt8)]).map of)⟩ : Head) : Nat) : Int) = ((6 : Nat) : Int)))) && (decide (((lost [] (⟨((0 : Nat) : Int), of (([] : List UInt8))⟩ : Head) : Nat) : Int) = ((0 : Nat) : Int))))))] 24 mixed hN_5 hD_5 (by kernel_rfl) (by kernel_rfl) (by kernel_rfl) ?_ ?_
  · refine Asks.cons ?_ (Asks.cons ?_ (Asks.cons ?_ (Asks.cons ?_ (Asks.cons ?_ (Asks.cons ?_ (Asks.cons ?_ (Asks.cons ?_ (Asks.cons ?_ (Asks.cons ?_ (Asks.cons ?_ (Asks.cons ?_ (Asks.cons ?_ (Asks.cons ?_ (Asks.cons ?_ (Asks.cons ?_ (Asks.cons ?_ (Asks.cons ?_ (Asks.cons ?_ (Asks.cons ?_ (Asks.cons ?_ (Asks.cons ?_ (Asks.cons ?_ (Asks.cons ?_ (Asks.zero _))))))))))))))))))))))))
    · refine Ask.plain rfl rfl ?_
      intro aq wq hNq hO hR hT
      replace hR := (Ext.drew _).trans hR
      exact does_loadD (o := 0) (n := 5) (mid := [i64 ((([([97, 98] : List UInt8)]).length : Nat) : Int), w32 (root (([([97, 98] : List UInt8)]).map of)).a, w32 (root (([([97, 98] : List UInt8)]).map of)).b, w32 (root (([([97, 98] : List UInt8)]).map of)).c, w32 (root (([([97, 98] : List UInt8)]).map of)).d]) ((hO 2 rfl).trans s2_5) (hbb2_6.ext' hR) rfl rfl (Nat.le_of_ble_eq_true rfl) row_29 rfl ⟨Ext.refl _, rfl⟩
    · refine Ask.plain rfl rfl ?_
      intro aq wq hNq hO hR hT
      replace hR := (Ext.drew _).trans hR
      exact does_ret (vs := #[str (([97, 98] : List UInt8))]) call_38 (args1 rfl) rfl ((ofR (([97, 98] : List UInt8)) wq (by first | assumption | decide | omega)).mono fun v w2 h => ⟨h.2, h.1⟩)
    · refine Ask.plain rfl rfl ?_
      intro aq wq hNq hO hR hT
      replace hR := (Ext.drew _).trans hR
      exact does_build (vs := #[(0, i64 ((1 : Nat) : Int)), (1, Dg.val (of (([97, 98] : List UInt8))))]) (V := Value.agg #[i64 ((1 : Nat) : Int), w32 (of (([97, 98] : List UInt8))).a, w32 (of (([97, 98] : List UInt8))).b, w32 (of (([97, 98] : List UInt8))).c, w32 (of (([97, 98] : List UInt8))).d]) (parts2 rfl (hT 8 rfl rfl)) (by kernel_rfl) ⟨Ext.refl _, rfl⟩
    · refine Ask.plain rfl rfl ?_
      intro aq wq hNq hO hR hT
      replace hR := (Ext.drew _).trans hR
      exact does_eqT (a := (⟨((([([97, 98] : List UInt8)]).length : Nat) : Int), root (([([97, 98] : List UInt8)]).map of)⟩ : Head)) (b := (⟨((1 : Nat) : Int), of (([97, 98] : List UInt8))⟩ : Head)) eq_29 (hT 7 rfl rfl) (hT 9 rfl rfl) ⟨Ext.refl _, rfl⟩
    · refine Ask.plain rfl rfl ?_
      intro aq wq hNq hO hR hT
      replace hR := (Ext.drew _).trans hR
      exact does_move (V := Value.bool (decide ((⟨((([([97, 98] : List UInt8)]).length : Nat) : Int), root (([([97, 98] : List UInt8)]).map of)⟩ : Head) = (⟨((1 : Nat) : Int), of (([97, 98] : List UInt8))⟩ : Head)))) (hT 10 rfl rfl) ⟨Ext.refl _, rfl⟩
    · refine Ask.guarded (B := decide ((⟨((([([97, 98] : List UInt8)]).length : Nat) : Int), root (([([97, 98] : List UInt8)]).map of)⟩ : Head) = (⟨((1 : Nat) : Int), of (([97, 98] : List UInt8))⟩ : Head))) (want := true) (t := 11) rfl rfl rfl rfl (by decide) (fun aq wq hO hR hT => hT 11 rfl rfl) (fun hG aq wq hNq hO hR hT => ?_) (fun hno _ hc => absurd hc hno)
      replace hR := (Ext.drew _).trans hR
      exact does_loadD (o := 0) (n := 1) (mid := [x4_0_2]) ((hO 1 rfl).trans s1_5) (hbb1_6.ext' hR) rfl rfl (Nat.le_of_ble_eq_true rfl) row_24 rfl ⟨Ext.refl _, fun _ => rfl⟩
    · refine Ask.guarded (B := decide ((⟨((([([97, 98] : List UInt8)]).length : Nat) : Int), root (([([97, 98] : List UInt8)]).map of)⟩ : Head) = (⟨((1 : Nat) : Int), of (([97, 98] : List UInt8))⟩ : Head))) (want := true) (t := 11) rfl rfl rfl rfl (by decide) (fun aq wq hO hR hT => hT 11 rfl rfl) (fun hG aq wq hNq hO hR hT => ?_) (fun hno _ hc => absurd hc hno)
      replace hR := (Ext.drew _).trans hR
      exact does_loadD (o := 0) (n := 5) (mid := [i64 ((([([97, 98] : List UInt8)]).length : Nat) : Int), w32 (root (([([97, 98] : List UInt8)]).map of)).a, w32 (root (([([97, 98] : List UInt8)]).map of)).b, w32 (root (([([97, 98] : List UInt8)]).map of)).c, w32 (root (([([97, 98] : List UInt8)]).map of)).d]) ((hO 2 rfl).trans s2_5) (hbb2_6.ext' hR) rfl rfl (Nat.le_of_ble_eq_true rfl) row_29 rfl ⟨Ext.refl _, fun _ => rfl⟩
    · refine Ask.guarded (B := decide ((⟨((([([97, 98] : List UInt8)]).length : Nat) : Int), root (([([97, 98] : List UInt8)]).map of)⟩ : Head) = (⟨((1 : Nat) : Int), of (([97, 98] : List UInt8))⟩ : Head))) (want := true) (t := 11) rfl rfl rfl rfl (by decide) (fun aq wq hO hR hT => hT 11 rfl rfl) (fun hG aq wq hNq hO hR hT => ?_) (fun hno _ hc => absurd hc hno)
      replace hR := (Ext.drew _).trans hR
      exact does_ret (vs := #[Value.agg #[x4_0_2], Value.agg #[i64 ((([([97, 98] : List UInt8)]).length : Nat) : Int), w32 (root (([([97, 98] : List UInt8)]).map of)).a, w32 (root (([([97, 98] : List UInt8)]).map of)).b, w32 (root (([([97, 98] : List UInt8)]).map of)).c, w32 (root (([([97, 98] : List UInt8)]).map of)).d]]) call_14 (args2 (hT 12 rfl rfl (hG)) (hT 13 rfl rfl (hG))) rfl ((lost_ ([([97, 98] : List UInt8)]) (x4_0_2) (⟨((([([97, 98] : List UInt8)]).length : Nat) : Int), root (([([97, 98] : List UInt8)]).map of)⟩ : Head) wq (hL.ext (hE_6.trans hR)) ((hsx4_0_2_6.ext' hR).wide (Nat.zero_le _) (.inl rfl)) (by decide) (by decide)).mono fun v w2 h => ⟨h.2, fun _ => h.1⟩)
    · refine Ask.guarded (B := decide ((⟨((([([97, 98] : List UInt8)]).length : Nat) : Int), root (([([97, 98] : List UInt8)]).map of)⟩ : Head) = (⟨((1 : Nat) : Int), of (([97, 98] : List UInt8))⟩ : Head))) (want := true) (t := 11) rfl rfl rfl rfl (by decide) (fun aq wq hO hR hT => hT 11 rfl rfl) (fun hG aq wq hNq hO hR hT => ?_) (fun hno _ hc => absurd hc hno)
      replace hR := (Ext.drew _).trans hR
      exact does_eql (a := ((lost ([([97, 98] : List UInt8)]) (⟨((([([97, 98] : List UInt8)]).length : Nat) : Int), root (([([97, 98] : List UInt8)]).map of)⟩ : Head) : Nat) : Int)) (b := ((0 : Nat) : Int)) (hT 14 rfl rfl (hG)) rfl ⟨Ext.refl _, fun _ => rfl⟩
    · refine Ask.plain rfl rfl ?_
      intro aq wq hNq hO hR hT
      replace hR := (Ext.drew _).trans hR
      exact does_and (B := decide ((⟨((([([97, 98] : List UInt8)]).length : Nat) : Int), root (([([97, 98] : List UInt8)]).map of)⟩ : Head) = (⟨((1 : Nat) : Int), of (([97, 98] : List UInt8))⟩ : Head))) (X := decide (((lost ([([97, 98] : List UInt8)]) (⟨((([([97, 98] : List UInt8)]).length : Nat) : Int), root (([([97, 98] : List UInt8)]).map of)⟩ : Head) : Nat) : Int) = ((0 : Nat) : Int))) (hT 11 rfl rfl) (fun hB => (hT 15 rfl rfl hB)) rfl ⟨Ext.refl _, rfl⟩
    · refine Ask.plain rfl rfl ?_
      intro aq wq hNq hO hR hT
      replace hR := (Ext.drew _).trans hR
      exact does_move (V := Value.bool ((decide ((⟨((([([97, 98] : List UInt8)]).length : Nat) : Int), root (([([97, 98] : List UInt8)]).map of)⟩ : Head) = (⟨((1 : Nat) : Int), of (([97, 98] : List UInt8))⟩ : Head))) && (decide (((lost ([([97, 98] : List UInt8)]) (⟨((([([97, 98] : List UInt8)]).length : Nat) : Int), root (([([97, 98] : List UInt8)]).map of)⟩ : Head) : Nat) : Int) = ((0 : Nat) : Int))))) (hT 16 rfl rfl) ⟨Ext.refl _, rfl⟩
    · refine Ask.guarded (B := (decide ((⟨((([([97, 98] : List UInt8)]).length : Nat) : Int), root (([([97, 98] : List UInt8)]).map of)⟩ : Head) = (⟨((1 : Nat) : Int), of (([97, 98] : List UInt8))⟩ : Head))) && (decide (((lost ([([97, 98] : List UInt8)]) (⟨((([([97, 98] : List UInt8)]).length : Nat) : Int), root (([([97, 98] : List UInt8)]).map of)⟩ : Head) : Nat) : Int) = ((0 : Nat) : Int)))) (want := true) (t := 17) rfl rfl rfl rfl (by decide) (fun aq wq hO hR hT => hT 17 rfl rfl) (fun hG aq wq hNq hO hR hT => ?_) (fun hno _ hc => absurd hc hno)
      replace hR := (Ext.drew _).trans hR
      exact does_build (vs := #[]) (V := Value.agg #[Value.slice none 0 0]) parts0 (by kernel_rfl) ⟨Ext.refl _, fun _ => rfl⟩
    · refine Ask.guarded (B := (decide ((⟨((([([97, 98] : List UInt8)]).length : Nat) : Int), root (([([97, 98] : List UInt8)]).map of)⟩ : Head) = (⟨((1 : Nat) : Int), of (([97, 98] : List UInt8))⟩ : Head))) && (decide (((lost ([([97, 98] : List UInt8)]) (⟨((([([97, 98] : List UInt8)]).length : Nat) : Int), root (([([97, 98] : List UInt8)]).map of)⟩ : Head) : Nat) : Int) = ((0 : Nat) : Int)))) (want := true) (t := 17) rfl rfl rfl rfl (by decide) (fun aq wq hO hR hT => hT 17 rfl rfl) (fun hG aq wq hNq hO hR hT => ?_) (fun hno _ hc => absurd hc hno)
      replace hR := (Ext.drew _).trans hR
      exact does_loadD (o := 0) (n := 5) (mid := [i64 ((([([97, 98] : List UInt8)]).length : Nat) : Int), w32 (root (([([97, 98] : List UInt8)]).map of)).a, w32 (root (([([97, 98] : List UInt8)]).map of)).b, w32 (root (([([97, 98] : List UInt8)]).map of)).c, w32 (root (([([97, 98] : List UInt8)]).map of)).d]) ((hO 2 rfl).trans s2_5) (hbb2_6.ext' hR) rfl rfl (Nat.le_of_ble_eq_true rfl) row_29 rfl ⟨Ext.refl _, fun _ => rfl⟩
    · refine Ask.guarded (B := (decide ((⟨((([([97, 98] : List UInt8)]).length : Nat) : Int), root (([([97, 98] : List UInt8)]).map of)⟩ : Head) = (⟨((1 : Nat) : Int), of (([97, 98] : List UInt8))⟩ : Head))) && (decide (((lost ([([97, 98] : List UInt8)]) (⟨((([([97, 98] : List UInt8)]).length : Nat) : Int), root (([([97, 98] : List UInt8)]).map of)⟩ : Head) : Nat) : Int) = ((0 : Nat) : Int)))) (want := true) (t := 17) rfl rfl rfl rfl (by decide) (fun aq wq hO hR hT => hT 17 rfl rfl) (fun hG aq wq hNq hO hR hT => ?_) (fun hno _ hc => absurd hc hno)
      replace hR := (Ext.drew _).trans hR
      exact does_ret (vs := #[Value.agg #[Value.slice none 0 0], Value.agg #[i64 ((([([97, 98] : List UInt8)]).length : Nat) : Int), w32 (root (([([97, 98] : List UInt8)]).map of)).a, w32 (root (([([97, 98] : List UInt8)]).map of)).b, w32 (root (([([97, 98] : List UInt8)]).map of)).c, w32 (root (([([97, 98] : List UInt8)]).map of)).d]]) call_14 (args2 (hT 18 rfl rfl (hG)) (hT 19 rfl rfl (hG))) rfl ((lost_ ([]) (Value.slice none 0 0) (⟨((([([97, 98] : List UInt8)]).length : Nat) : Int), root (([([97, 98] : List UInt8)]).map of)⟩ : Head) wq (hL.ext (hE_6.trans hR)) (SlT.nil Str 0 0 _) (by decide) (by decide)).mono fun v w2 h => ⟨h.2, fun _ => h.1⟩)
    · refine Ask.guarded (B := (decide ((⟨((([([97, 98] : List UInt8)]).length : Nat) : Int), root (([([97, 98] : List UInt8)]).map of)⟩ : Head) = (⟨((1 : Nat) : Int), of (([97, 98] : List UInt8))⟩ : Head))) && (decide (((lost ([([97, 98] : List UInt8)]) (⟨((([([97, 98] : List UInt8)]).length : Nat) : Int), root (([([97, 98] : List UInt8)]).map of)⟩ : Head) : Nat) : Int) = ((0 : Nat) : Int)))) (want := true) (t := 17) rfl rfl rfl rfl (by decide) (fun aq wq hO hR hT => hT 17 rfl rfl) (fun hG aq wq hNq hO hR hT => ?_) (fun hno _ hc => absurd hc hno)
      replace hR := (Ext.drew _).trans hR
      exact does_eql (a := ((lost [] (⟨((([([97, 98] : List UInt8)]).length : Nat) : Int), root (([([97, 98] : List UInt8)]).map of)⟩ : Head) : Nat) : Int)) (b := ((6 : Nat) : Int)) (hT 20 rfl rfl (hG)) rfl ⟨Ext.refl _, fun _ => rfl⟩
    · refine Ask.plain rfl rfl ?_
      intro aq wq hNq hO hR hT
      replace hR := (Ext.drew _).trans hR
      exact does_and (B := (decide ((⟨((([([97, 98] : List UInt8)]).length : Nat) : Int), root (([([97, 98] : List UInt8)]).map of)⟩ : Head) = (⟨((1 : Nat) : Int), of (([97, 98] : List UInt8))⟩ : Head))) && (decide (((lost ([([97, 98] : List UInt8)]) (⟨((([([97, 98] : List UInt8)]).length : Nat) : Int), root (([([97, 98] : List UInt8)]).map of)⟩ : Head) : Nat) : Int) = ((0 : Nat) : Int)))) (X := decide (((lost [] (⟨((([([97, 98] : List UInt8)]).length : Nat) : Int), root (([([97, 98] : List UInt8)]).map of)⟩ : Head) : Nat) : Int) = ((6 : Nat) : Int))) (hT 17 rfl rfl) (fun hB => (hT 21 rfl rfl hB)) rfl ⟨Ext.refl _, rfl⟩
    · refine Ask.plain rfl rfl ?_
      intro aq wq hNq hO hR hT
      replace hR := (Ext.drew _).trans hR
      exact does_move (V := Value.bool (((decide ((⟨((([([97, 98] : List UInt8)]).length : Nat) : Int), root (([([97, 98] : List UInt8)]).map of)⟩ : Head) = (⟨((1 : Nat) : Int), of (([97, 98] : List UInt8))⟩ : Head))) && (decide (((lost ([([97, 98] : List UInt8)]) (⟨((([([97, 98] : List UInt8)]).length : Nat) : Int), root (([([97, 98] : List UInt8)]).map of)⟩ : Head) : Nat) : Int) = ((0 : Nat) : Int)))) && (decide (((lost [] (⟨((([([97, 98] : List UInt8)]).length : Nat) : Int), root (([([97, 98] : List UInt8)]).map of)⟩ : Head) : Nat) : Int) = ((6 : Nat) : Int))))) (hT 22 rfl rfl) ⟨Ext.refl _, rfl⟩
    · refine Ask.guarded (B := ((decide ((⟨((([([97, 98] : List UInt8)]).length : Nat) : Int), root (([([97, 98] : List UInt8)]).map of)⟩ : Head) = (⟨((1 : Nat) : Int), of (([97, 98] : List UInt8))⟩ : Head))) && (decide (((lost ([([97, 98] : List UInt8)]) (⟨((([([97, 98] : List UInt8)]).length : Nat) : Int), root (([([97, 98] : List UInt8)]).map of)⟩ : Head) : Nat) : Int) = ((0 : Nat) : Int)))) && (decide (((lost [] (⟨((([([97, 98] : List UInt8)]).length : Nat) : Int), root (([([97, 98] : List UInt8)]).map of)⟩ : Head) : Nat) : Int) = ((6 : Nat) : Int)))) (want := true) (t := 23) rfl rfl rfl rfl (by decide) (fun aq wq hO hR hT => hT 23 rfl rfl) (fun hG aq wq hNq hO hR hT => ?_) (fun hno _ hc => absurd hc hno)
      replace hR := (Ext.drew _).trans hR
      exact does_build (vs := #[]) (V := Value.agg #[Value.slice none 0 0]) parts0 (by kernel_rfl) ⟨Ext.refl _, fun _ => rfl⟩
    · refine Ask.guarded (B := ((decide ((⟨((([([97, 98] : List UInt8)]).length : Nat) : Int), root (([([97, 98] : List UInt8)]).map of)⟩ : Head) = (⟨((1 : Nat) : Int), of (([97, 98] : List UInt8))⟩ : Head))) && (decide (((lost ([([97, 98] : List UInt8)]) (⟨((([([97, 98] : List UInt8)]).length : Nat) : Int), root (([([97, 98] : List UInt8)]).map of)⟩ : Head) : Nat) : Int) = ((0 : Nat) : Int)))) && (decide (((lost [] (⟨((([([97, 98] : List UInt8)]).length : Nat) : Int), root (([([97, 98] : List UInt8)]).map of)⟩ : Head) : Nat) : Int) = ((6 : Nat) : Int)))) (want := true) (t := 23) rfl rfl rfl rfl (by decide) (fun aq wq hO hR hT => hT 23 rfl rfl) (fun hG aq wq hNq hO hR hT => ?_) (fun hno _ hc => absurd hc hno)
      replace hR := (Ext.drew _).trans hR
      exact does_ret (vs := #[str (([] : List UInt8))]) call_38 (args1 rfl) rfl ((ofR (([] : List UInt8)) wq (by first | assumption | decide | omega)).mono fun v w2 h => ⟨h.2, fun _ => h.1⟩)
    · refine Ask.guarded (B := ((decide ((⟨((([([97, 98] : List UInt8)]).length : Nat) : Int), root (([([97, 98] : List UInt8)]).map of)⟩ : Head) = (⟨((1 : Nat) : Int), of (([97, 98] : List UInt8))⟩ : Head))) && (decide (((lost ([([97, 98] : List UInt8)]) (⟨((([([97, 98] : List UInt8)]).length : Nat) : Int), root (([([97, 98] : List UInt8)]).map of)⟩ : Head) : Nat) : Int) = ((0 : Nat) : Int)))) && (decide (((lost [] (⟨((([([97, 98] : List UInt8)]).length : Nat) : Int), root (([([97, 98] : List UInt8)]).map of)⟩ : Head) : Nat) : Int) = ((6 : Nat) : Int)))) (want := true) (t := 23) rfl rfl rfl rfl (by decide) (fun aq wq hO hR hT => hT 23 rfl rfl) (fun hG aq wq hNq hO hR hT => ?_) (fun hno _ hc => absurd hc hno)
      replace hR := (Ext.drew _).trans hR
      exact does_build (vs := #[(1, Dg.val (of (([] : List UInt8))))]) (V := Value.agg #[i64 ((0 : Nat) : Int), w32 (of (([] : List UInt8))).a, w32 (of (([] : List UInt8))).b, w32 (of (([] : List UInt8))).c, w32 (of (([] : List UInt8))).d]) (parts1 (hT 25 rfl rfl (hG))) (by kernel_rfl) ⟨Ext.refl _, fun _ => rfl⟩
    · refine Ask.guarded (B := ((decide ((⟨((([([97, 98] : List UInt8)]).length : Nat) : Int), root (([([97, 98] : List UInt8)]).map of)⟩ : Head) = (⟨((1 : Nat) : Int), of (([97, 98] : List UInt8))⟩ : Head))) && (decide (((lost ([([97, 98] : List UInt8)]) (⟨((([([97, 98] : List UInt8)]).length : Nat) : Int), root (([([97, 98] : List UInt8)]).map of)⟩ : Head) : Nat) : Int) = ((0 : Nat) : Int)))) && (decide (((lost [] (⟨((([([97, 98] : List UInt8)]).length : Nat) : Int), root (([([97, 98] : List UInt8)]).map of)⟩ : Head) : Nat) : Int) = ((6 : Nat) : Int)))) (want := true) (t := 23) rfl rfl rfl rfl (by decide) (fun aq wq hO hR hT => hT 23 rfl rfl) (fun hG aq wq hNq hO hR hT => ?_) (fun hno _ hc => absurd hc hno)
      replace hR := (Ext.drew _).trans hR
      exact does_ret (vs := #[Value.agg #[Value.slice none 0 0], Value.agg #[i64 ((0 : Nat) : Int), w32 (of (([] : List UInt8))).a, w32 (of (([] : List UInt8))).b, w32 (of (([] : List UInt8))).c, w32 (of (([] : List UInt8))).d]]) call_14 (args2 (hT 24 rfl rfl (hG)) (hT 26 rfl rfl (hG))) rfl ((lost_ ([]) (Value.slice none 0 0) (⟨((0 : Nat) : Int), of (([] : List UInt8))⟩ : Head) wq (hL.ext (hE_6.trans hR)) (SlT.nil Str 0 0 _) (by decide) (by decide)).mono fun v w2 h => ⟨h.2, fun _ => h.1⟩)
    · refine Ask.guarded (B := ((decide ((⟨((([([97, 98] : List UInt8)]).length : Nat) : Int), root (([([97, 98] : List UInt8)]).map of)⟩ : Head) = (⟨((1 : Nat) : Int), of (([97, 98] : List UInt8))⟩ : Head))) && (decide (((lost ([([97, 98] : List UInt8)]) (⟨((([([97, 98] : List UInt8)]).length : Nat) : Int), root (([([97, 98] : List UInt8)]).map of)⟩ : Head) : Nat) : Int) = ((0 : Nat) : Int)))) && (decide (((lost [] (⟨((([([97, 98] : List UInt8)]).length : Nat) : Int), root (([([97, 98] : List UInt8)]).map of)⟩ : Head) : Nat) : Int) = ((6 : Nat) : Int)))) (want := true) (t := 23) rfl rfl rfl rfl (by decide) (fun aq wq hO hR hT => hT 23 rfl rfl) (fun hG aq wq hNq hO hR hT => ?_) (fun hno _ hc => absurd hc hno)
      replace hR := (Ext.drew _).trans hR
      exact does_eql (a := ((lost [] (⟨((0 : Nat) : Int), of (([] : List UInt8))⟩ : Head) : Nat) : Int)) (b := ((0 : Nat) : Int)) (hT 27 rfl rfl (hG)) rfl ⟨Ext.refl _, fun _ => rfl⟩
    · refine Ask.plain rfl rfl ?_
      intro aq wq hNq hO hR hT
      replace hR := (Ext.drew _).trans hR
      exact does_and (B := ((decide ((⟨((([([97, 98] : List UInt8)]).length : Nat) : Int), root (([([97, 98] : List UInt8)]).map of)⟩ : Head) = (⟨((1 : Nat) : Int), of (([97, 98] : List UInt8))⟩ : Head))) && (decide (((lost ([([97, 98] : List UInt8)]) (⟨((([([97, 98] : List UInt8)]).length : Nat) : Int), root (([([97, 98] : List UInt8)]).map of)⟩ : Head) : Nat) : Int) = ((0 : Nat) : Int)))) && (decide (((lost [] (⟨((([([97, 98] : List UInt8)]).length : Nat) : Int), root (([([97, 98] : List UInt8)]).map of)⟩ : Head) : Nat) : Int) = ((6 : Nat) : Int)))) (X := decide (((lost [] (⟨((0 : Nat) : Int), of (([] : List UInt8))⟩ : Head) : Nat) : Int) = ((0 : Nat) : Int))) (hT 23 rfl rfl) (fun hB => (hT 28 rfl rfl hB)) rfl ⟨Ext.refl _, rfl⟩
    · refine Ask.plain rfl rfl ?_
      intro aq wq hNq hO hR hT
      replace hR := (Ext.drew _).trans hR
      exact does_assign (V := Value.bool ((((decide ((⟨((([([97, 98] : List UInt8)]).length : Nat) : Int), root (([([97, 98] : List UInt8)]).map of)⟩ : Head) = (⟨((1 : Nat) : Int), of (([97, 98] : List UInt8))⟩ : Head))) && (decide (((lost ([([97, 98] : List UInt8)]) (⟨((([([97, 98] : List UInt8)]).length : Nat) : Int), root (([([97, 98] : List UInt8)]).map of)⟩ : Head) : Nat) : Int) = ((0 : Nat) : Int)))) && (decide (((lost [] (⟨((([([97, 98] : List UInt8)]).length : Nat) : Int), root (([([97, 98] : List UInt8)]).map of)⟩ : Head) : Nat) : Int) = ((6 : Nat) : Int)))) && (decide (((lost [] (⟨((0 : Nat) : Int), of (([] : List UInt8))⟩ : Head) : Nat) : Int) = ((0 : Nat) : Int))))) (hT 29 rfl rfl) ⟨Ext.refl _, rfl⟩
  intro a7 wd7 hN_7 hD_7 hO hR hA hU
  obtain ⟨_, _, _, _, _, _, _, _, _, _, _, _, _, _, _, _, _, _, _, _, _, _, _, t0, _⟩ := hA
  have hE_7 := hE_6.trans hR
  have hbb1_7 := hbb1_6.ext' hR
  have hbb2_7 := hbb2_6.ext' hR
  have hsx4_0_2_7 := hsx4_0_2_6.ext' hR
  have hox4_0_2_7 := hox4_0_2_6.ext' hR
  have s0_7 : get a7 0 = Value.bool ((((decide ((⟨((([([97, 98] : List UInt8)]).length : Nat) : Int), root (([([97, 98] : List UInt8)]).map of)⟩ : Head) = (⟨((1 : Nat) : Int), of (([97, 98] : List UInt8))⟩ : Head))) && (decide (((lost ([([97, 98] : List UInt8)]) (⟨((([([97, 98] : List UInt8)]).length : Nat) : Int), root (([([97, 98] : List UInt8)]).map of)⟩ : Head) : Nat) : Int) = ((0 : Nat) : Int)))) && (decide (((lost [] (⟨((([([97, 98] : List UInt8)]).length : Nat) : Int), root (([([97, 98] : List UInt8)]).map of)⟩ : Head) : Nat) : Int) = ((6 : Nat) : Int)))) && (decide (((lost [] (⟨((0 : Nat) : Int), of (([] : List UInt8))⟩ : Head) : Nat) : Int) = ((0 : Nat) : Int)))) := t0
  clear hE_6 hN_5 hD_5 s1_5 s2_5 s6_5 hbb1_6 hbb2_6 hsx4_0_2_6 hox4_0_2_6
  refine tail_nil ?_
  refine wp_ret ?_
  refine res_one (V := Value.bool ((((decide ((⟨((([([97, 98] : List UInt8)]).length : Nat) : Int), root (([([97, 98] : List UInt8)]).map of)⟩ : Head) = (⟨((1 : Nat) : Int), of (([97, 98] : List UInt8))⟩ : Head))) && (decide (((lost ([([97, 98] : List UInt8)]) (⟨((([([97, 98] : List UInt8)]).length : Nat) : Int), root (([([97, 98] : List UInt8)]).map of)⟩ : Head) : Nat) : Int) = ((0 : Nat) : Int)))) && (decide (((lost [] (⟨((([([97, 98] : List UInt8)]).length : Nat) : Int), root (([([97, 98] : List UInt8)]).map of)⟩ : Head) : Nat) : Int) = ((6 : Nat) : Int)))) && (decide (((lost [] (⟨((0 : Nat) : Int), of (([] : List UInt8))⟩ : Head) : Nat) : Int) = ((0 : Nat) : Int))))) rfl hD_7 s0_7 ?_
  exact ⟨by show Value.bool _ = Value.bool true; simp [lost, root_one, root_nil], hE_7⟩

theorem few43 (items : List (List UInt8)) (x1 : Value) (w0 : World) (hx1 : SlT Str 0 0 items x1 w0) :
    Gives Tryd.prog 13 #[Value.agg #[x1]] w0 (Pr.ex (Value.bool (few items 20 300 && right items))) := by
  refine enter (N := 9) Tryd.func13 rfl rfl ?_
  intro a0 hN_0 hD_0 hA
  have s0_0 : get a0 0 = Value.agg #[x1] := hA 0 _ rfl
  clear hA
  have hE_0 : Ext w0 w0 := Ext.refl w0
  have hsx1_0 := hx1.close
  refine wp_seq ?_
  refine region_lex [1] [(1, Pr.box' w0.heap.size 24 [x1]), (2, Pr.ex (Value.bool (false)))] 2 hN_0 hD_0 (by kernel_rfl) (by kernel_rfl) ?_ ?_
  · refine Asks.cons ?_ (Asks.cons ?_ (Asks.zero _))
    · refine Ask.fresh rfl rfl ?_
      intro aq wq hNq hO hR hT
      exact does_box (V := Value.agg #[x1]) ((hO 0 rfl).trans s0_0) (fun b w2 he hlo hb => ⟨he, ⟨b, rfl, Nat.le_trans hR.size' hlo, hb⟩, ⟨b, rfl, hlo, hb.lt⟩⟩)
    · refine Ask.plain rfl rfl ?_
      intro aq wq hNq hO hR hT
      exact does_assign (V := Value.bool (false)) rfl ⟨Ext.refl _, rfl⟩
  intro a1 wd1 hN_1 hD_1 hO hR hA hU
  obtain ⟨t1, _, _⟩ := hA
  have hE_1 := hE_0.trans hR
  have hsx1_1 := hsx1_0.ext' hR
  obtain ⟨b1, s1_1, lo_b1, hbb1_1⟩ := t1
  have nb_x1_b1 := SlT.old hsx1_0 lo_b1
  have fr_b1 : w0.heap.size ≤ b1 := Nat.le_trans hE_0.size' lo_b1
  clear hE_0 hN_0 hD_0 s0_0 hsx1_0
  refine tail_nil ?_
  refine wp_seq ?_
  refine region_lex [] [(3, Pr.ex (Value.agg #[x1])), (4, Pr.ex (Value.bool (few items 20 300))), (5, Pr.ex (Value.bool (few items 20 300))), (6, Pr.ifb (few items 20 300) (Pr.ex (Value.agg #[x1]))), (7, Pr.ifb (few items 20 300) (Pr.ex (Value.bool (right items)))), (8, Pr.ex (Value.bool ((few items 20 300) && (right items)))), (2, Pr.ex (Value.bool ((few items 20 300) && (right items))))] 7 hN_1 hD_1 (by kernel_rfl) (by kernel_rfl) ?_ ?_
  · refine Asks.cons ?_ (Asks.cons ?_ (Asks.cons ?_ (Asks.cons ?_ (Asks.cons ?_ (Asks.cons ?_ (Asks.cons ?_ (Asks.zero _)))))))
    · refine Ask.plain rfl rfl ?_
      intro aq wq hNq hO hR hT
      exact does_loadD (o := 0) (n := 1) (mid := [x1]) ((hO 1 rfl).trans s1_1) (hbb1_1.ext' hR) rfl rfl (Nat.le_of_ble_eq_true rfl) row_24 rfl ⟨Ext.refl _, rfl⟩
    · refine Ask.plain rfl rfl ?_
      intro aq wq hNq hO hR hT
      exact does_ret (vs := #[Value.agg #[x1], i64 ((20 : Nat) : Int), i64 ((300 : Nat) : Int)]) call_39 (args3 (hT 3 rfl rfl) rfl rfl) rfl ((few_ (items) (x1) (20) (300) wq ((hsx1_1.ext' hR).wide (Nat.zero_le _) (.inl rfl)) (by decide)).mono fun v w2 h => ⟨h.2, h.1⟩)
    · refine Ask.plain rfl rfl ?_
      intro aq wq hNq hO hR hT
      exact does_move (V := Value.bool (few items 20 300)) (hT 4 rfl rfl) ⟨Ext.refl _, rfl⟩
    · refine Ask.guarded (B := few items 20 300) (want := true) (t := 5) rfl rfl rfl rfl (by decide) (fun aq wq hO hR hT => hT 5 rfl rfl) (fun hG aq wq hNq hO hR hT => ?_) (fun hno _ hc => absurd hc hno)
      exact does_loadD (o := 0) (n := 1) (mid := [x1]) ((hO 1 rfl).trans s1_1) (hbb1_1.ext' hR) rfl rfl (Nat.le_of_ble_eq_true rfl) row_24 rfl ⟨Ext.refl _, fun _ => rfl⟩
    · refine Ask.guarded (B := few items 20 300) (want := true) (t := 5) rfl rfl rfl rfl (by decide) (fun aq wq hO hR hT => hT 5 rfl rfl) (fun hG aq wq hNq hO hR hT => ?_) (fun hno _ hc => absurd hc hno)
      exact does_ret (vs := #[Value.agg #[x1]]) call_20 (args1 (hT 6 rfl rfl (hG))) rfl ((right_ (items) (x1) wq ((hsx1_1.ext' hR).wide (Nat.zero_le _) (.inl rfl)) (few_hs hG (by decide)) (few_hn hG (by decide))).mono fun v w2 h => ⟨h.2, fun _ => h.1⟩)
    · refine Ask.plain rfl rfl ?_
      intro aq wq hNq hO hR hT
      exact does_and (B := few items 20 300) (X := right items) (hT 5 rfl rfl) (fun hB => (hT 7 rfl rfl hB)) rfl ⟨Ext.refl _, rfl⟩
    · refine Ask.plain rfl rfl ?_
      intro aq wq hNq hO hR hT
      exact does_assign (V := Value.bool ((few items 20 300) && (right items))) (hT 8 rfl rfl) ⟨Ext.refl _, rfl⟩
  intro a2 wd2 hN_2 hD_2 hO hR hA hU
  obtain ⟨_, _, _, _, _, _, t2, _⟩ := hA
  have hE_2 := hE_1.trans hR
  have hbb1_2 := hbb1_1.ext' hR
  have hsx1_2 := hsx1_1.ext' hR
  have s2_2 : get a2 2 = Value.bool ((few items 20 300) && (right items)) := t2
  clear hE_1 hN_1 hD_1 s1_1 hbb1_1 hsx1_1
  refine tail_nil ?_
  refine wp_ret ?_
  refine res_one (V := Value.bool ((few items 20 300) && (right items))) rfl hD_2 s2_2 ?_
  exact ⟨rfl, hE_2⟩

end Go.Proofs.YtijfjpbahepegaaDoor
