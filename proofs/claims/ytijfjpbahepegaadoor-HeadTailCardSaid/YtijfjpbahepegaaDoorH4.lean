/- The walks of functions of the program: printed. -/
import Derived.Test.YtijfjpbahepegaaDoorK18
import Derived.Test.YtijfjpbahepegaaDoorG3
import Derived.Test.YtijfjpbahepegaaDoorG8
import Derived.Test.YtijfjpbahepegaaDoorG9
import Derived.Test.YtijfjpbahepegaaDoorG31
import Derived.Test.YtijfjpbahepegaaDoorF0
set_option maxRecDepth 100000
namespace Go.Proofs.YtijfjpbahepegaaDoor
open Go Go.RowKit Sk Sd
theorem call_12 : Callable Tryd.prog 12 := ⟨_, Tryd.func12, by kernel_rfl, rfl⟩
theorem call_13 : Callable Tryd.prog 13 := ⟨_, Tryd.func13, by kernel_rfl, rfl⟩
theorem call_19 : Callable Tryd.prog 19 := ⟨_, Tryd.func19, by kernel_rfl, rfl⟩
theorem headTail (items : List (List UInt8)) (x1 : Value) (cut : UInt8) (s : List UInt8) (w0 : World) (hL : Laid w0) (hx1 : SlT Str 0 0 items x1 w0) :
    Gives Tryd.prog 5 #[Value.agg #[x1], w8 (cut), str (s)] w0 (Pr.ex (Value.bool true)) := by
  refine enter (N := 71) Tryd.func5 rfl rfl ?_
  intro a0 hN_0 hD_0 hA
  have s0_0 : get a0 0 = Value.agg #[x1] := hA 0 _ rfl
  have s1_0 : get a0 1 = w8 (cut) := hA 1 _ rfl
  have s2_0 : get a0 2 = str (s) := hA 2 _ rfl
  clear hA
  have hE_0 : Ext w0 w0 := Ext.refl w0
  have hsx1_0 := hx1.close
  refine wp_seq ?_
  refine region_lex [3] [(3, Pr.box' w0.heap.size 24 [x1]), (6, Pr.ex (Value.bool (false)))] 2 hN_0 hD_0 (by kernel_rfl) (by kernel_rfl) ?_ ?_
  · refine Asks.cons ?_ (Asks.cons ?_ (Asks.zero _))
    · refine Ask.fresh rfl rfl ?_
      intro aq wq hNq hO hR hT
      exact does_box (V := Value.agg #[x1]) ((hO 0 rfl).trans s0_0) (fun b w2 he hlo hb => ⟨he, ⟨b, rfl, Nat.le_trans hR.size' hlo, hb⟩, ⟨b, rfl, hlo, hb.lt⟩⟩)
    · refine Ask.plain rfl rfl ?_
      intro aq wq hNq hO hR hT
      exact does_assign (V := Value.bool (false)) rfl ⟨Ext.refl _, rfl⟩
  intro a1 wd1 hN_1 hD_1 hO hR hA hU
  obtain ⟨t3, _, _⟩ := hA
  have hE_1 := hE_0.trans hR
  have s1_1 := (hO 1 rfl).trans s1_0
  have s2_1 := (hO 2 rfl).trans s2_0
  have hsx1_1 := hsx1_0.ext' hR
  obtain ⟨b3, s3_1, lo_b3, hbb3_1⟩ := t3
  have nb_x1_b3 := SlT.old hsx1_0 lo_b3
  have fr_b3 : w0.heap.size ≤ b3 := Nat.le_trans hE_0.size' lo_b3
  clear hE_0 hN_0 hD_0 s0_0 s1_0 s2_0 hsx1_0
  refine tail_nil ?_
  refine wp_seq ?_
  refine wp_seq ?_
  refine region_lex [] [(13, Pr.ex (Value.bool (true))), (14, Pr.ex (Value.bool (false)))] 2 hN_1 hD_1 (by kernel_rfl) (by kernel_rfl) ?_ ?_
  · refine Asks.cons ?_ (Asks.cons ?_ (Asks.zero _))
    · refine Ask.plain rfl rfl ?_
      intro aq wq hNq hO hR hT
      exact does_ret (vs := #[]) call_12 args0 rfl ((alive43 wq (hL.ext (hE_1.trans hR))).mono fun v w2 h => ⟨h.2, h.1⟩)
    · refine Ask.plain rfl rfl ?_
      intro aq wq hNq hO hR hT
      exact does_not (B := true) (hT 13 rfl rfl) ⟨Ext.refl _, rfl⟩
  intro a2 wd2 hN_2 hD_2 hO hR hA hU
  obtain ⟨_, t14, _⟩ := hA
  have hE_2 := hE_1.trans hR
  have s1_2 := (hO 1 rfl).trans s1_1
  have s2_2 := (hO 2 rfl).trans s2_1
  have s3_2 := (hO 3 rfl).trans s3_1
  have hbb3_2 := hbb3_1.ext' hR
  have hsx1_2 := hsx1_1.ext' hR
  have s14_2 : get a2 14 = Value.bool (false) := t14
  clear hE_1 hN_1 hD_1 s1_1 s2_1 s3_1 hbb3_1 hsx1_1
  refine tail_nil ?_
  refine wp_ifF s14_2 ?_
  refine wp_skip ?_
  refine wp_seq ?_
  refine wp_seq ?_
  refine region_lex [] [(15, Pr.ex (Value.agg #[x1])), (16, Pr.ex (Value.bool (few items 20 300 && right items))), (17, Pr.ex (Value.bool (!(few items 20 300 && right items)))), (18, Pr.ex (Value.bool (!(few items 20 300 && right items)))), (19, Pr.ifb (!(!(few items 20 300 && right items))) (Pr.ex (str (s)))), (20, Pr.ifb (!(!(few items 20 300 && right items))) (Pr.ex (i64 ((s.length : Nat) : Int)))), (21, Pr.ifb (!(!(few items 20 300 && right items))) (Pr.ex (Value.bool (decide (((300 : Nat) : Int) < ((s.length : Nat) : Int)))))), (22, Pr.ex (Value.bool ((!(few items 20 300 && right items)) || (decide (((300 : Nat) : Int) < ((s.length : Nat) : Int))))))] 8 hN_2 hD_2 (by kernel_rfl) (by kernel_rfl) ?_ ?_
  · refine Asks.cons ?_ (Asks.cons ?_ (Asks.cons ?_ (Asks.cons ?_ (Asks.cons ?_ (Asks.cons ?_ (Asks.cons ?_ (Asks.cons ?_ (Asks.zero _))))))))
    · refine Ask.plain rfl rfl ?_
      intro aq wq hNq hO hR hT
      exact does_loadD (o := 0) (n := 1) (mid := [x1]) ((hO 3 rfl).trans s3_2) (hbb3_2.ext' hR) rfl rfl (Nat.le_of_ble_eq_true rfl) row_24 rfl ⟨Ext.refl _, rfl⟩
    · refine Ask.plain rfl rfl ?_
      intro aq wq hNq hO hR hT
      exact does_ret (vs := #[Value.agg #[x1]]) call_13 (args1 (hT 15 rfl rfl)) rfl ((few43 (items) (x1) wq ((hsx1_2.ext' hR).wide (Nat.zero_le _) (.inl rfl))).mono fun v w2 h => ⟨h.2, h.1⟩)
    · refine Ask.plain rfl rfl ?_
      intro aq wq hNq hO hR hT
      exact does_not (B := few items 20 300 && right items) (hT 16 rfl rfl) ⟨Ext.refl _, rfl⟩
    · refine Ask.plain rfl rfl ?_
      intro aq wq hNq hO hR hT
      exact does_move (V := Value.bool (!(few items 20 300 && right items))) (hT 17 rfl rfl) ⟨Ext.refl _, rfl⟩
    · refine Ask.guarded (B := !(few items 20 300 && right items)) (want := false) (t := 18) rfl rfl rfl rfl (by decide) (fun aq wq hO hR hT => hT 18 rfl rfl) (fun hG aq wq hNq hO hR hT => ?_) (fun hno _ hc => absurd (bn hc) hno)
      replace hG := nb hG
      exact does_move (V := str (s)) ((hO 2 rfl).trans s2_2) ⟨Ext.refl _, fun _ => rfl⟩
    · refine Ask.guarded (B := !(few items 20 300 && right items)) (want := false) (t := 18) rfl rfl rfl rfl (by decide) (fun aq wq hO hR hT => hT 18 rfl rfl) (fun hG aq wq hNq hO hR hT => ?_) (fun hno _ hc => absurd (bn hc) hno)
      replace hG := nb hG
      exact does_lenStr (l := s) Tryd.underlying9 (hT 19 rfl rfl (hG)) ⟨Ext.refl _, fun _ => rfl⟩
    · refine Ask.guarded (B := !(few items 20 300 && right items)) (want := false) (t := 18) rfl rfl rfl rfl (by decide) (fun aq wq hO hR hT => hT 18 rfl rfl) (fun hG aq wq hNq hO hR hT => ?_) (fun hno _ hc => absurd (bn hc) hno)
      replace hG := nb hG
      exact does_gtr (a := ((s.length : Nat) : Int)) (b := ((300 : Nat) : Int)) (hT 20 rfl rfl (hG)) rfl ⟨Ext.refl _, fun _ => rfl⟩
    · refine Ask.plain rfl rfl ?_
      intro aq wq hNq hO hR hT
      exact does_or (B := !(few items 20 300 && right items)) (X := decide (((300 : Nat) : Int) < ((s.length : Nat) : Int))) (hT 18 rfl rfl) rfl (fun hB => (hT 21 rfl rfl (nb hB))) ⟨Ext.refl _, rfl⟩
  intro a3 wd3 hN_3 hD_3 hO hR hA hU
  obtain ⟨_, _, _, _, _, _, _, t22, _⟩ := hA
  have hE_3 := hE_2.trans hR
  have s1_3 := (hO 1 rfl).trans s1_2
  have s2_3 := (hO 2 rfl).trans s2_2
  have s3_3 := (hO 3 rfl).trans s3_2
  have hbb3_3 := hbb3_2.ext' hR
  have hsx1_3 := hsx1_2.ext' hR
  have s22_3 : get a3 22 = Value.bool ((!(few items 20 300 && right items)) || (decide (((300 : Nat) : Int) < ((s.length : Nat) : Int)))) := t22
  clear hE_2 hN_2 hD_2 s1_2 s2_2 s3_2 s14_2 hbb3_2 hsx1_2
  refine tail_nil ?_
  refine wp_if (B := (!(few items 20 300 && right items)) || (decide (((300 : Nat) : Int) < ((s.length : Nat) : Int)))) s22_3 (fun hc0 => ?_) (fun hc0 => ?_)
  · -- T 0
    refine wp_seq ?_
    refine region_lex [] [(6, Pr.ex (Value.bool (true)))] 1 hN_3 hD_3 (by kernel_rfl) (by kernel_rfl) ?_ ?_
    · refine Asks.cons ?_ (Asks.zero _)
      · refine Ask.plain rfl rfl ?_
        intro aq wq hNq hO hR hT
        exact does_assign (V := Value.bool (true)) rfl ⟨Ext.refl _, rfl⟩
    intro a4 wd4 hN_4 hD_4 hO hR hA hU
    obtain ⟨t6, _⟩ := hA
    have hE_4 := hE_3.trans hR
    have hbb3_4 := hbb3_3.ext' hR
    have hsx1_4 := hsx1_3.ext' hR
    have s6_4 : get a4 6 = Value.bool (true) := t6
    clear hE_3 hN_3 hD_3 s1_3 s2_3 s3_3 s22_3 hbb3_3 hsx1_3
    refine tail_nil ?_
    refine wp_ret ?_
    refine res_one (V := Value.bool (true)) rfl hD_4 s6_4 ?_
    exact ⟨rfl, hE_4⟩
  obtain ⟨hf1, hss⟩ : (few items 20 300 && right items) = true ∧ ((s.length : Nat) : Int) ≤ 300 := by simpa using hc0
  have hf := Bool.and_eq_true_iff.1 hf1
  have hs := few_hs hf.1 (by decide)
  have hn := few_hn hf.1 (by decide)
  have hmost := (few_spec hf.1).1
  refine wp_skip ?_
  refine wp_seq ?_
  refine region_lex [7] [(23, Pr.ex (Value.agg #[x1])), (24, Pr.ex (Value.agg #[i64 ((items.length : Nat) : Int), w32 (root (items.map of)).a, w32 (root (items.map of)).b, w32 (root (items.map of)).c, w32 (root (items.map of)).d])), (7, Pr.box' wd3.heap.size 29 [i64 ((0 : Nat) : Int), w32 (Dg.zero).a, w32 (Dg.zero).b, w32 (Dg.zero).c, w32 (Dg.zero).d])] 3 hN_3 hD_3 (by kernel_rfl) (by kernel_rfl) ?_ ?_
  · refine Asks.cons ?_ (Asks.cons ?_ (Asks.cons ?_ (Asks.zero _)))
    · refine Ask.plain rfl rfl ?_
      intro aq wq hNq hO hR hT
      exact does_loadD (o := 0) (n := 1) (mid := [x1]) ((hO 3 rfl).trans s3_3) (hbb3_3.ext' hR) rfl rfl (Nat.le_of_ble_eq_true rfl) row_24 rfl ⟨Ext.refl _, rfl⟩
    · refine Ask.plain rfl rfl ?_
      intro aq wq hNq hO hR hT
      exact does_ret (vs := #[Value.agg #[x1]]) call_18 (args1 (hT 23 rfl rfl)) rfl ((shead (items) (x1) wq (hL.ext (hE_3.trans hR)) ((hsx1_3.ext' hR).wide (Nat.zero_le _) (.inl rfl)) hs hn).mono fun v w2 h => ⟨h.2, h.1⟩)
    · refine Ask.fresh rfl rfl ?_
      intro aq wq hNq hO hR hT
      exact does_alloc zero_29 (fun b w2 he hlo hb => ⟨he, ⟨b, rfl, Nat.le_trans hR.size' hlo, hb⟩, ⟨b, rfl, hlo, hb.lt⟩⟩)
  intro a5 wd5 hN_5 hD_5 hO hR hA hU
  obtain ⟨_, t24, t7, _⟩ := hA
  have hE_5 := hE_3.trans hR
  have s1_5 := (hO 1 rfl).trans s1_3
  have s2_5 := (hO 2 rfl).trans s2_3
  have s3_5 := (hO 3 rfl).trans s3_3
  have hbb3_5 := hbb3_3.ext' hR
  have hsx1_5 := hsx1_3.ext' hR
  have s24_5 : get a5 24 = Value.agg #[i64 ((items.length : Nat) : Int), w32 (root (items.map of)).a, w32 (root (items.map of)).b, w32 (root (items.map of)).c, w32 (root (items.map of)).d] := t24
  obtain ⟨b7, s7_5, lo_b7, hbb7_5⟩ := t7
  have ne_b3_b7 : b3 ≠ b7 := fun e => Nat.lt_irrefl _ (Nat.lt_of_lt_of_le hbb3_3.lt (e ▸ lo_b7))
  have nb_x1_b7 := SlT.old hsx1_3 lo_b7
  have fr_b7 : w0.heap.size ≤ b7 := Nat.le_trans hE_3.size' lo_b7
  clear hE_3 hN_3 hD_3 s1_3 s2_3 s3_3 s22_3 hbb3_3 hsx1_3
  refine tail_none rfl rfl (does_storeD (o := 0) (n := 5) (cs' := [i64 ((items.length : Nat) : Int), w32 (root (items.map of)).a, w32 (root (items.map of)).b, w32 (root (items.map of)).c, w32 (root (items.map of)).d]) (V := Value.agg #[i64 ((items.length : Nat) : Int), w32 (root (items.map of)).a, w32 (root (items.map of)).b, w32 (root (items.map of)).c, w32 (root (items.map of)).d]) s7_5 s24_5 hbb7_5 (Nat.le_of_ble_eq_true rfl) rfl siz_29 rfl rfl (fun wd6 hX hz hbb7_6 => ?_))
  have hE_6 := hE_5.since hX (fun k e => e ▸ fr_b7)
  have hbb3_6 := hbb3_5.ext hX ne_b3_b7
  have hsx1_6 := SlT.over hsx1_5 hX nb_x1_b7
  clear hX hz hE_5 hbb3_5 hbb7_5 hsx1_5
  refine tail_nil ?_
  refine wp_seq ?_
  refine wp_seq ?_
  refine region_lex [] [(25, Pr.ex (Value.agg #[x1])), (26, Pr.ex (Value.agg #[i64 ((items.length : Nat) : Int), w32 (root (items.map of)).a, w32 (root (items.map of)).b, w32 (root (items.map of)).c, w32 (root (items.map of)).d])), (27, Pr.ex (i64 ((lost items (⟨((items.length : Nat) : Int), root (items.map of)⟩ : Head) : Nat) : Int))), (28, Pr.ex (Value.bool (!decide (((lost items (⟨((items.length : Nat) : Int), root (items.map of)⟩ : Head) : Nat) : Int) = ((0 : Nat) : Int)))))] 4 hN_5 hD_5 (by kernel_rfl) (by kernel_rfl) ?_ ?_
  · refine Asks.cons ?_ (Asks.cons ?_ (Asks.cons ?_ (Asks.cons ?_ (Asks.zero _))))
    · refine Ask.plain rfl rfl ?_
      intro aq wq hNq hO hR hT
      exact does_loadD (o := 0) (n := 1) (mid := [x1]) ((hO 3 rfl).trans s3_5) (hbb3_6.ext' hR) rfl rfl (Nat.le_of_ble_eq_true rfl) row_24 rfl ⟨Ext.refl _, rfl⟩
    · refine Ask.plain rfl rfl ?_
      intro aq wq hNq hO hR hT
      exact does_loadD (o := 0) (n := 5) (mid := [i64 ((items.length : Nat) : Int), w32 (root (items.map of)).a, w32 (root (items.map of)).b, w32 (root (items.map of)).c, w32 (root (items.map of)).d]) ((hO 7 rfl).trans s7_5) (hbb7_6.ext' hR) rfl rfl (Nat.le_of_ble_eq_true rfl) row_29 rfl ⟨Ext.refl _, rfl⟩
    · refine Ask.plain rfl rfl ?_
      intro aq wq hNq hO hR hT
      exact does_ret (vs := #[Value.agg #[x1], Value.agg #[i64 ((items.length : Nat) : Int), w32 (root (items.map of)).a, w32 (root (items.map of)).b, w32 (root (items.map of)).c, w32 (root (items.map of)).d]]) call_14 (args2 (hT 25 rfl rfl) (hT 26 rfl rfl)) rfl ((lost_ (items) (x1) (⟨((items.length : Nat) : Int), root (items.map of)⟩ : Head) wq (hL.ext (hE_6.trans hR)) ((hsx1_6.ext' hR).wide (Nat.zero_le _) (.inl rfl)) hs hn).mono fun v w2 h => ⟨h.2, h.1⟩)
    · refine Ask.plain rfl rfl ?_
      intro aq wq hNq hO hR hT
      exact does_neq (a := ((lost items (⟨((items.length : Nat) : Int), root (items.map of)⟩ : Head) : Nat) : Int)) (b := ((0 : Nat) : Int)) (hT 27 rfl rfl) rfl ⟨Ext.refl _, rfl⟩
  intro a7 wd7 hN_7 hD_7 hO hR hA hU
  obtain ⟨_, _, _, t28, _⟩ := hA
  have hE_7 := hE_6.trans hR
  have s1_7 := (hO 1 rfl).trans s1_5
  have s2_7 := (hO 2 rfl).trans s2_5
  have s3_7 := (hO 3 rfl).trans s3_5
  have s7_7 := (hO 7 rfl).trans s7_5
  have hbb3_7 := hbb3_6.ext' hR
  have hbb7_7 := hbb7_6.ext' hR
  have hsx1_7 := hsx1_6.ext' hR
  have s28_7 : get a7 28 = Value.bool (!decide (((lost items (⟨((items.length : Nat) : Int), root (items.map of)⟩ : Head) : Nat) : Int) = ((0 : Nat) : Int))) := t28
  clear hE_6 hN_5 hD_5 s1_5 s2_5 s3_5 s7_5 s24_5 hbb3_6 hbb7_6 hsx1_6
  refine tail_nil ?_
  refine wp_if (B := !decide (((lost items (⟨((items.length : Nat) : Int), root (items.map of)⟩ : Head) : Nat) : Int) = ((0 : Nat) : Int))) s28_7 (fun hc1 => ?_) (fun hc1 => ?_)
  · -- T 1
    have hc1 := of_decide_eq_false (bn hc1)
    exact absurd (lost_self items) (by omega)
  have hc1 := of_decide_eq_true (bn' hc1)
  refine wp_skip ?_
  refine wp_seq ?_
  refine wp_seq ?_
  refine region_lex [] [(29, Pr.ex (Value.pointer (some ⟨b3, 0, none⟩))), (30, Pr.ex (x1)), (31, Pr.ex (i64 ((items.length : Nat) : Int))), (32, Pr.ex (Value.bool (decide (((0 : Nat) : Int) < ((items.length : Nat) : Int)))))] 4 hN_7 hD_7 (by kernel_rfl) (by kernel_rfl) ?_ ?_
  · refine Asks.cons ?_ (Asks.cons ?_ (Asks.cons ?_ (Asks.cons ?_ (Asks.zero _))))
    · refine Ask.plain rfl rfl ?_
      intro aq wq hNq hO hR hT
      exact does_field (o' := 0) fld_24_0 ((hO 3 rfl).trans s3_7) rfl ⟨Ext.refl _, rfl⟩
    · refine Ask.plain rfl rfl ?_
      intro aq wq hNq hO hR hT
      exact does_loadD1 (o := 0) (V := x1) (hT 29 rfl rfl) (hbb3_7.ext' hR) rfl one_22 ⟨Ext.refl _, rfl⟩
    · refine Ask.plain rfl rfl ?_
      intro aq wq hNq hO hR hT
      exact does_len (T := Str) (xs := items) sli_22 (SlT.at (hT 30 rfl rfl) (hsx1_7.ext' hR)) ⟨Ext.refl _, rfl⟩
    · refine Ask.plain rfl rfl ?_
      intro aq wq hNq hO hR hT
      exact does_gtr (a := ((items.length : Nat) : Int)) (b := ((0 : Nat) : Int)) (hT 31 rfl rfl) rfl ⟨Ext.refl _, rfl⟩
  intro a8 wd8 hN_8 hD_8 hO hR hA hU
  obtain ⟨_, _, _, t32, _⟩ := hA
  have hE_8 := hE_7.trans hR
  have s1_8 := (hO 1 rfl).trans s1_7
  have s2_8 := (hO 2 rfl).trans s2_7
  have s3_8 := (hO 3 rfl).trans s3_7
  have s7_8 := (hO 7 rfl).trans s7_7
  have hbb3_8 := hbb3_7.ext' hR
  have hbb7_8 := hbb7_7.ext' hR
  have hsx1_8 := hsx1_7.ext' hR
  have s32_8 : get a8 32 = Value.bool (decide (((0 : Nat) : Int) < ((items.length : Nat) : Int))) := t32
  clear hE_7 hN_7 hD_7 s1_7 s2_7 s3_7 s7_7 s28_7 hbb3_7 hbb7_7 hsx1_7
  refine tail_nil ?_
  refine wp_if (B := decide (((0 : Nat) : Int) < ((items.length : Nat) : Int))) s32_8 (fun hc2 => ?_) (fun hc2 => ?_)
  · -- T 2
    have hc2 := of_decide_eq_true hc2
    have hlt : cut.toNat % items.length < items.length := Nat.mod_lt _ (by omega)
    refine wp_seq ?_
    refine region_lex [] [(33, Pr.ex (w8 (cut))), (34, Pr.ex (i64 (((cut).toNat : Nat) : Int))), (35, Pr.ex (Value.pointer (some ⟨b3, 0, none⟩))), (36, Pr.ex (x1)), (37, Pr.ex (i64 ((items.length : Nat) : Int))), (38, Pr.ex (i64 ((((cut).toNat) % items.length : Nat) : Int))), (8, Pr.ex (i64 ((((cut).toNat) % items.length : Nat) : Int)))] 7 hN_8 hD_8 (by kernel_rfl) (by kernel_rfl) ?_ ?_
    · refine Asks.cons ?_ (Asks.cons ?_ (Asks.cons ?_ (Asks.cons ?_ (Asks.cons ?_ (Asks.cons ?_ (Asks.cons ?_ (Asks.zero _)))))))
      · refine Ask.plain rfl rfl ?_
        intro aq wq hNq hO hR hT
        exact does_move (V := w8 (cut)) ((hO 1 rfl).trans s1_8) ⟨Ext.refl _, rfl⟩
      · refine Ask.plain rfl rfl ?_
        intro aq wq hNq hO hR hT
        exact does_conv ⟨_, Tryd.underlying5⟩ Tryd.underlying3 (hT 33 rfl rfl) (conv_w_i8 _) ⟨Ext.refl _, rfl⟩
      · refine Ask.plain rfl rfl ?_
        intro aq wq hNq hO hR hT
        exact does_field (o' := 0) fld_24_0 ((hO 3 rfl).trans s3_8) rfl ⟨Ext.refl _, rfl⟩
      · refine Ask.plain rfl rfl ?_
        intro aq wq hNq hO hR hT
        exact does_loadD1 (o := 0) (V := x1) (hT 35 rfl rfl) (hbb3_8.ext' hR) rfl one_22 ⟨Ext.refl _, rfl⟩
      · refine Ask.plain rfl rfl ?_
        intro aq wq hNq hO hR hT
        exact does_len (T := Str) (xs := items) sli_22 (SlT.at (hT 36 rfl rfl) (hsx1_8.ext' hR)) ⟨Ext.refl _, rfl⟩
      · refine Ask.plain rfl rfl ?_
        intro aq wq hNq hO hR hT
        exact does_rem (k := .i64) (a := (((cut).toNat : Nat) : Int)) (b := ((items.length : Nat) : Int)) (r := ((((cut).toNat) % items.length : Nat) : Int)) (hT 34 rfl rfl) (hT 37 rfl rfl) (by omega) (by omega) (by omega) ⟨Ext.refl _, rfl⟩
      · refine Ask.plain rfl rfl ?_
        intro aq wq hNq hO hR hT
        exact does_assign (V := i64 ((((cut).toNat) % items.length : Nat) : Int)) (hT 38 rfl rfl) ⟨Ext.refl _, rfl⟩
    intro a9 wd9 hN_9 hD_9 hO hR hA hU
    obtain ⟨_, _, _, _, _, _, t8, _⟩ := hA
    have hE_9 := hE_8.trans hR
    have s2_9 := (hO 2 rfl).trans s2_8
    have s3_9 := (hO 3 rfl).trans s3_8
    have s7_9 := (hO 7 rfl).trans s7_8
    have hbb3_9 := hbb3_8.ext' hR
    have hbb7_9 := hbb7_8.ext' hR
    have hsx1_9 := hsx1_8.ext' hR
    have s8_9 : get a9 8 = i64 ((((cut).toNat) % items.length : Nat) : Int) := t8
    clear hE_8 hN_8 hD_8 s1_8 s2_8 s3_8 s7_8 s32_8 hbb3_8 hbb7_8 hsx1_8
    refine tail_nil ?_
    refine wp_seq ?_
    refine region_lex [] [(39, Pr.ex (Value.pointer (some ⟨b3, 0, none⟩))), (40, Pr.ex (x1)), (41, Pr.ex (i64 ((((cut).toNat) % items.length : Nat) : Int))), (42, Pr.ex (i64 ((((cut).toNat) % items.length : Nat) : Int)))] 4 hN_9 hD_9 (by kernel_rfl) (by kernel_rfl) ?_ ?_
    · refine Asks.cons ?_ (Asks.cons ?_ (Asks.cons ?_ (Asks.cons ?_ (Asks.zero _))))
      · refine Ask.plain rfl rfl ?_
        intro aq wq hNq hO hR hT
        exact does_field (o' := 0) fld_24_0 ((hO 3 rfl).trans s3_9) rfl ⟨Ext.refl _, rfl⟩
      · refine Ask.plain rfl rfl ?_
        intro aq wq hNq hO hR hT
        exact does_loadD1 (o := 0) (V := x1) (hT 39 rfl rfl) (hbb3_9.ext' hR) rfl one_22 ⟨Ext.refl _, rfl⟩
      · refine Ask.plain rfl rfl ?_
        intro aq wq hNq hO hR hT
        exact does_move (V := i64 ((((cut).toNat) % items.length : Nat) : Int)) ((hO 8 rfl).trans s8_9) ⟨Ext.refl _, rfl⟩
      · refine Ask.plain rfl rfl ?_
        intro aq wq hNq hO hR hT
        exact does_move (V := i64 ((((cut).toNat) % items.length : Nat) : Int)) ((hO 8 rfl).trans s8_9) ⟨Ext.refl _, rfl⟩
    intro a10 wd10 hN_10 hD_10 hO hR hA hU
    obtain ⟨_, t40, t41, t42, _⟩ := hA
    have hE_10 := hE_9.trans hR
    have s2_10 := (hO 2 rfl).trans s2_9
    have s3_10 := (hO 3 rfl).trans s3_9
    have s7_10 := (hO 7 rfl).trans s7_9
    have hbb3_10 := hbb3_9.ext' hR
    have hbb7_10 := hbb7_9.ext' hR
    have hsx1_10 := hsx1_9.ext' hR
    have s40_10 : get a10 40 = x1 := t40
    have s41_10 : get a10 41 = i64 ((((cut).toNat) % items.length : Nat) : Int) := t41
    have s42_10 : get a10 42 = i64 ((((cut).toNat) % items.length : Nat) : Int) := t42
    clear hE_9 hN_9 hD_9 s2_9 s3_9 s7_9 s8_9 hbb3_9 hbb7_9 hsx1_9
    refine tail_put rfl rfl hN_10 hD_10 (by decide) (does_sliceFull (T := Str) (xs := items) (k := ((((cut).toNat) % items.length : Nat) : Int)) sli_22 rfl (SlT.at s40_10 hsx1_10) s41_10 s42_10 (by omega) (by omega) (fun x43a hsx43_11 => fun a11 hN_11 hD_11 hv hO => ?_))
    replace hsx43_11 : SlT Str 0 (w0.heap.size + 1) (items.take (((cut).toNat) % items.length)) (Value.slice x43a (items.take (((cut).toNat) % items.length)).length (items.take (((cut).toNat) % items.length)).length) wd10 := hsx43_11
    replace hv : get a11 43 = Value.slice x43a (items.take (((cut).toNat) % items.length)).length (items.take (((cut).toNat) % items.length)).length := hv
    obtain ⟨x43, hfullx43⟩ : ∃ x, x = Value.slice x43a (items.take (((cut).toNat) % items.length)).length (items.take (((cut).toNat) % items.length)).length := ⟨_, rfl⟩
    rw [← hfullx43] at hsx43_11 hv
    have s43_11 := hv
    have s2_11 := (hO 2 rfl).trans s2_10
    have s3_11 := (hO 3 rfl).trans s3_10
    have s7_11 := (hO 7 rfl).trans s7_10
    clear hO hv hN_10 hD_10 s2_10 s3_10 s7_10 s40_10 s41_10 s42_10
    refine tail_put rfl rfl hN_11 hD_11 (by decide) (does_build (vs := #[(0, x43)]) (V := Value.agg #[x43]) (parts1 s43_11) (by obtain ⟨sa0, sc0, hv0, _⟩ := hsx43_11; rw [hv0]; kernel_rfl) (fun a12 hN_12 hD_12 hv hO => ?_))
    have s44_12 := hv
    have s2_12 := (hO 2 rfl).trans s2_11
    have s3_12 := (hO 3 rfl).trans s3_11
    have s7_12 := (hO 7 rfl).trans s7_11
    clear hO hv hN_11 hD_11 s2_11 s3_11 s7_11 s43_11
    refine tail_put rfl rfl hN_12 hD_12 (by decide) (does_alloc zero_24 (fun b9 wd13 he lo_b9 hbb9_13 => fun a13 hN_13 hD_13 hv hO => ?_))
    have s9_13 := hv
    have hE_13 := hE_10.trans he
    have hbb3_13 := hbb3_10.ext' he
    have hbb7_13 := hbb7_10.ext' he
    have hsx1_13 := hsx1_10.ext' he
    have hsx43_13 := hsx43_11.ext' he
    have fr_b9 : w0.heap.size ≤ b9 := Nat.le_trans hE_10.size' lo_b9
    have ne_b3_b9 : b3 ≠ b9 := fun e => Nat.lt_irrefl _ (Nat.lt_of_lt_of_le hbb3_10.lt (e ▸ lo_b9))
    have ne_b7_b9 : b7 ≠ b9 := fun e => Nat.lt_irrefl _ (Nat.lt_of_lt_of_le hbb7_10.lt (e ▸ lo_b9))
    have nb_x1_b9 := SlT.old hsx1_10 lo_b9
    have nb_x43_b9 := SlT.old hsx43_11 lo_b9
    have s2_13 := (hO 2 rfl).trans s2_12
    have s3_13 := (hO 3 rfl).trans s3_12
    have s7_13 := (hO 7 rfl).trans s7_12
    have s44_13 := (hO 44 rfl).trans s44_12
    clear hO hv hN_12 hD_12 hE_10 hbb3_10 hbb7_10 hsx1_10 hsx43_11 s2_12 s3_12 s7_12 s44_12
    refine tail_none rfl rfl (does_storeD (o := 0) (n := 1) (cs' := [x43]) (V := Value.agg #[x43]) s9_13 s44_13 hbb9_13 (Nat.le_of_ble_eq_true rfl) rfl siz_24 (one_cons (SlT.one hsx43_13) one_nil) rfl (fun wd14 hX hz hbb9_14 => ?_))
    have hE_14 := hE_13.since hX (fun k e => e ▸ fr_b9)
    have hbb3_14 := hbb3_13.ext hX ne_b3_b9
    have hbb7_14 := hbb7_13.ext hX ne_b7_b9
    have hsx1_14 := SlT.over hsx1_13 hX nb_x1_b9
    have hsx43_14 := SlT.over hsx43_13 hX nb_x43_b9
    clear hX hz hE_13 hbb3_13 hbb7_13 hbb9_13 hsx1_13 hsx43_13
    refine tail_nil ?_
    refine wp_seq ?_
    refine region_any [] [(45, Pr.ex (Value.agg #[x43])), (46, Pr.ex (Value.agg #[i64 ((items.length : Nat) : Int), w32 (root (items.map of)).a, w32 (root (items.map of)).b, w32 (root (items.map of)).c, w32 (root (items.map of)).d])), (47, Pr.ex (i64 ((lost (items.take (((cut).toNat) % items.length)) (⟨((items.length : Nat) : Int), root (items.map of)⟩ : Head) : Nat) : Int))), (48, Pr.ex (Value.bool (!decide (((lost (items.take (((cut).toNat) % items.length)) (⟨((items.length : Nat) : Int), root (items.map of)⟩ : Head) : Nat) : Int) = ((6 : Nat) : Int))))), (49, Pr.ex (Value.bool (!decide (((lost (items.take (((cut).toNat) % items.length)) (⟨((items.length : Nat) : Int), root (items.map of)⟩ : Head) : Nat) : Int) = ((6 : Nat) : Int))))), (50, Pr.ifb (!(!decide (((lost (items.take (((cut).toNat) % items.length)) (⟨((items.length : Nat) : Int), root (items.map of)⟩ : Head) : Nat) : Int) = ((6 : Nat) : Int)))) (Pr.ex (Value.agg #[x1]))), (51, Pr.ifb (!(!decide (((lost (items.take (((cut).toNat) % items.length)) (⟨((items.length : Nat) : Int), root (items.map of)⟩ : Head) : Nat) : Int) = ((6 : Nat) : Int)))) (Pr.ex (Value.agg #[x43]))), (52, Pr.ifb (!(!decide (((lost (items.take (((cut).toNat) % items.length)) (⟨((items.length : Nat) : Int), root (items.map of)⟩ : Head) : Nat) : Int) = ((6 : Nat) : Int)))) (Pr.ex (Value.agg #[i64 (((items.take (((cut).toNat) % items.length)).length : Nat) : Int), w32 (root ((items.take (((cut).toNat) % items.length)).map of)).a, w32 (root ((items.take (((cut).toNat) % items.length)).map of)).b, w32 (root ((items.take (((cut).toNat) % items.length)).map of)).c, w32 (root ((items.take (((cut).toNat) % items.length)).map of)).d]))), (53, Pr.ifb (!(!decide (((lost (items.take (((cut).toNat) % items.length)) (⟨((items.length : Nat) : Int), root (items.map of)⟩ : Head) : Nat) : Int) = ((6 : Nat) : Int)))) (Pr.ex (i64 ((lost items (⟨(((items.take (((cut).toNat) % items.length)).length : Nat) : Int), root ((items.take (((cut).toNat) % items.length)).map of)⟩ : Head) : Nat) : Int)))), (54, Pr.ifb (!(!decide (((lost (items.take (((cut).toNat) % items.length)) (⟨((items.length : Nat) : Int), root (items.map of)⟩ : Head) : Nat) : Int) = ((6 : Nat) : Int)))) (Pr.ex (Value.bool (!decide (((lost items (⟨(((items.take (((cut).toNat) % items.length)).length : Nat) : Int), root ((items.take (((cut).toNat) % items.length)).map of)⟩ : Head) : Nat) : Int) = ((0 : Nat) : Int)))))), (55, Pr.ex (Value.bool ((!decide (((lost (items.take (((cut).toNat) % items.length)) (⟨((items.length : Nat) : Int), root (items.map of)⟩ : Head) : Nat) : Int) = ((6 : Nat) : Int))) || (!decide (((lost items (⟨(((items.take (((cut).toNat) % items.length)).length : Nat) : Int), root ((items.take (((cut).toNat) % items.length)).map of)⟩ : Head) : Nat) : Int) = ((0 : Nat) : Int))))))] 11 mixed hN_13 hD_13 (by kernel_rfl) (by kernel_rfl) (by kernel_rfl) ?_ ?_
    · refine Asks.cons ?_ (Asks.cons ?_ (Asks.cons ?_ (Asks.cons ?_ (Asks.cons ?_ (Asks.cons ?_ (Asks.cons ?_ (Asks.cons ?_ (Asks.cons ?_ (Asks.cons ?_ (Asks.cons ?_ (Asks.zero _)))))))))))
      · refine Ask.plain rfl rfl ?_
        intro aq wq hNq hO hR hT
        replace hR := (Ext.drew _).trans hR
        exact does_loadD (o := 0) (n := 1) (mid := [x43]) ((hO 9 rfl).trans s9_13) (hbb9_14.ext' hR) rfl rfl (Nat.le_of_ble_eq_true rfl) row_24 rfl ⟨Ext.refl _, rfl⟩
      · refine Ask.plain rfl rfl ?_
        intro aq wq hNq hO hR hT
        replace hR := (Ext.drew _).trans hR
        exact does_loadD (o := 0) (n := 5) (mid := [i64 ((items.length : Nat) : Int), w32 (root (items.map of)).a, w32 (root (items.map of)).b, w32 (root (items.map of)).c, w32 (root (items.map of)).d]) ((hO 7 rfl).trans s7_13) (hbb7_14.ext' hR) rfl rfl (Nat.le_of_ble_eq_true rfl) row_29 rfl ⟨Ext.refl _, rfl⟩
      · refine Ask.plain rfl rfl ?_
        intro aq wq hNq hO hR hT
        replace hR := (Ext.drew _).trans hR
        exact does_ret (vs := #[Value.agg #[x43], Value.agg #[i64 ((items.length : Nat) : Int), w32 (root (items.map of)).a, w32 (root (items.map of)).b, w32 (root (items.map of)).c, w32 (root (items.map of)).d]]) call_14 (args2 (hT 45 rfl rfl) (hT 46 rfl rfl)) rfl ((lost_ (items.take (((cut).toNat) % items.length)) (x43) (⟨((items.length : Nat) : Int), root (items.map of)⟩ : Head) wq (hL.ext (hE_14.trans hR)) ((hsx43_14.ext' hR).wide (Nat.zero_le _) (.inl rfl)) (fun x hx => hs x (List.mem_of_mem_take hx)) (by simp only [List.length_take]; omega)).mono fun v w2 h => ⟨h.2, h.1⟩)
      · refine Ask.plain rfl rfl ?_
        intro aq wq hNq hO hR hT
        replace hR := (Ext.drew _).trans hR
        exact does_neq (a := ((lost (items.take (((cut).toNat) % items.length)) (⟨((items.length : Nat) : Int), root (items.map of)⟩ : Head) : Nat) : Int)) (b := ((6 : Nat) : Int)) (hT 47 rfl rfl) rfl ⟨Ext.refl _, rfl⟩
      · refine Ask.plain rfl rfl ?_
        intro aq wq hNq hO hR hT
        replace hR := (Ext.drew _).trans hR
        exact does_move (V := Value.bool (!decide (((lost (items.take (((cut).toNat) % items.length)) (⟨((items.length : Nat) : Int), root (items.map of)⟩ : Head) : Nat) : Int) = ((6 : Nat) : Int)))) (hT 48 rfl rfl) ⟨Ext.refl _, rfl⟩
      · refine Ask.guarded (B := !decide (((lost (items.take (((cut).toNat) % items.length)) (⟨((items.length : Nat) : Int), root (items.map of)⟩ : Head) : Nat) : Int) = ((6 : Nat) : Int))) (want := false) (t := 49) rfl rfl rfl rfl (by decide) (fun aq wq hO hR hT => hT 49 rfl rfl) (fun hG aq wq hNq hO hR hT => ?_) (fun hno _ hc => absurd (bn hc) hno)
        replace hG := nb hG
        replace hR := (Ext.drew _).trans hR
        exact does_loadD (o := 0) (n := 1) (mid := [x1]) ((hO 3 rfl).trans s3_13) (hbb3_14.ext' hR) rfl rfl (Nat.le_of_ble_eq_true rfl) row_24 rfl ⟨Ext.refl _, fun _ => rfl⟩
      · refine Ask.guarded (B := !decide (((lost (items.take (((cut).toNat) % items.length)) (⟨((items.length : Nat) : Int), root (items.map of)⟩ : Head) : Nat) : Int) = ((6 : Nat) : Int))) (want := false) (t := 49) rfl rfl rfl rfl (by decide) (fun aq wq hO hR hT => hT 49 rfl rfl) (fun hG aq wq hNq hO hR hT => ?_) (fun hno _ hc => absurd (bn hc) hno)
        replace hG := nb hG
        replace hR := (Ext.drew _).trans hR
        exact does_loadD (o := 0) (n := 1) (mid := [x43]) ((hO 9 rfl).trans s9_13) (hbb9_14.ext' hR) rfl rfl (Nat.le_of_ble_eq_true rfl) row_24 rfl ⟨Ext.refl _, fun _ => rfl⟩
      · refine Ask.guarded (B := !decide (((lost (items.take (((cut).toNat) % items.length)) (⟨((items.length : Nat) : Int), root (items.map of)⟩ : Head) : Nat) : Int) = ((6 : Nat) : Int))) (want := false) (t := 49) rfl rfl rfl rfl (by decide) (fun aq wq hO hR hT => hT 49 rfl rfl) (fun hG aq wq hNq hO hR hT => ?_) (fun hno _ hc => absurd (bn hc) hno)
        replace hG := nb hG
        replace hR := (Ext.drew _).trans hR
        exact does_ret (vs := #[Value.agg #[x43]]) call_18 (args1 (hT 51 rfl rfl (hG))) rfl ((shead (items.take (((cut).toNat) % items.length)) (x43) wq (hL.ext (hE_14.trans hR)) ((hsx43_14.ext' hR).wide (Nat.zero_le _) (.inl rfl)) (fun x hx => hs x (List.mem_of_mem_take hx)) (by simp only [List.length_take]; omega)).mono fun v w2 h => ⟨h.2, fun _ => h.1⟩)
      · refine Ask.guarded (B := !decide (((lost (items.take (((cut).toNat) % items.length)) (⟨((items.length : Nat) : Int), root (items.map of)⟩ : Head) : Nat) : Int) = ((6 : Nat) : Int))) (want := false) (t := 49) rfl rfl rfl rfl (by decide) (fun aq wq hO hR hT => hT 49 rfl rfl) (fun hG aq wq hNq hO hR hT => ?_) (fun hno _ hc => absurd (bn hc) hno)
        replace hG := nb hG
        replace hR := (Ext.drew _).trans hR
        exact does_ret (vs := #[Value.agg #[x1], Value.agg #[i64 (((items.take (((cut).toNat) % items.length)).length : Nat) : Int), w32 (root ((items.take (((cut).toNat) % items.length)).map of)).a, w32 (root ((items.take (((cut).toNat) % items.length)).map of)).b, w32 (root ((items.take (((cut).toNat) % items.length)).map of)).c, w32 (root ((items.take (((cut).toNat) % items.length)).map of)).d]]) call_14 (args2 (hT 50 rfl rfl (hG)) (hT 52 rfl rfl (hG))) rfl ((lost_ (items) (x1) (⟨(((items.take (((cut).toNat) % items.length)).length : Nat) : Int), root ((items.take (((cut).toNat) % items.length)).map of)⟩ : Head) wq (hL.ext (hE_14.trans hR)) ((hsx1_14.ext' hR).wide (Nat.zero_le _) (.inl rfl)) hs hn).mono fun v w2 h => ⟨h.2, fun _ => h.1⟩)
      · refine Ask.guarded (B := !decide (((lost (items.take (((cut).toNat) % items.length)) (⟨((items.length : Nat) : Int), root (items.map of)⟩ : Head) : Nat) : Int) = ((6 : Nat) : Int))) (want := false) (t := 49) rfl rfl rfl rfl (by decide) (fun aq wq hO hR hT => hT 49 rfl rfl) (fun hG aq wq hNq hO hR hT => ?_) (fun hno _ hc => absurd (bn hc) hno)
        replace hG := nb hG
        replace hR := (Ext.drew _).trans hR
        exact does_neq (a := ((lost items (⟨(((items.take (((cut).toNat) % items.length)).length : Nat) : Int), root ((items.take (((cut).toNat) % items.length)).map of)⟩ : Head) : Nat) : Int)) (b := ((0 : Nat) : Int)) (hT 53 rfl rfl (hG)) rfl ⟨Ext.refl _, fun _ => rfl⟩
      · refine Ask.plain rfl rfl ?_
        intro aq wq hNq hO hR hT
        replace hR := (Ext.drew _).trans hR
        exact does_or (B := !decide (((lost (items.take (((cut).toNat) % items.length)) (⟨((items.length : Nat) : Int), root (items.map of)⟩ : Head) : Nat) : Int) = ((6 : Nat) : Int))) (X := !decide (((lost items (⟨(((items.take (((cut).toNat) % items.length)).length : Nat) : Int), root ((items.take (((cut).toNat) % items.length)).map of)⟩ : Head) : Nat) : Int) = ((0 : Nat) : Int))) (hT 49 rfl rfl) rfl (fun hB => (hT 54 rfl rfl (nb hB))) ⟨Ext.refl _, rfl⟩
    intro a15 wd15 hN_15 hD_15 hO hR hA hU
    obtain ⟨_, _, _, _, _, _, _, _, _, _, t55, _⟩ := hA
    have hE_15 := hE_14.trans hR
    have s2_15 := (hO 2 rfl).trans s2_13
    have s3_15 := (hO 3 rfl).trans s3_13
    have s7_15 := (hO 7 rfl).trans s7_13
    have hbb3_15 := hbb3_14.ext' hR
    have hbb7_15 := hbb7_14.ext' hR
    have hbb9_15 := hbb9_14.ext' hR
    have hsx1_15 := hsx1_14.ext' hR
    have hsx43_15 := hsx43_14.ext' hR
    have s55_15 : get a15 55 = Value.bool ((!decide (((lost (items.take (((cut).toNat) % items.length)) (⟨((items.length : Nat) : Int), root (items.map of)⟩ : Head) : Nat) : Int) = ((6 : Nat) : Int))) || (!decide (((lost items (⟨(((items.take (((cut).toNat) % items.length)).length : Nat) : Int), root ((items.take (((cut).toNat) % items.length)).map of)⟩ : Head) : Nat) : Int) = ((0 : Nat) : Int)))) := t55
    clear hE_14 hN_13 hD_13 s2_13 s3_13 s7_13 s9_13 s44_13 hbb3_14 hbb7_14 hbb9_14 hsx1_14 hsx43_14
    refine tail_nil ?_
    refine wp_if (B := (!decide (((lost (items.take (((cut).toNat) % items.length)) (⟨((items.length : Nat) : Int), root (items.map of)⟩ : Head) : Nat) : Int) = ((6 : Nat) : Int))) || (!decide (((lost items (⟨(((items.take (((cut).toNat) % items.length)).length : Nat) : Int), root ((items.take (((cut).toNat) % items.length)).map of)⟩ : Head) : Nat) : Int) = ((0 : Nat) : Int)))) s55_15 (fun hc3 => ?_) (fun hc3 => ?_)
    · -- T 3
      rw [lost_cut hlt, lost_part (by omega)] at hc3; simp at hc3
    refine wp_skip ?_
    refine wp_seq ?_
    refine region_lex [] [(57, Pr.ex (Value.agg #[x1])), (58, Pr.ex (str (s))), (59, Pr.t3 (Pr.ag (fun x => Value.agg #[x]) (Pr.sl' Str 0 0 ((addS items s).1))) (Pr.ex (i64 ((addS items s).2.1))) (Pr.ex (i64 (((addS items s).2.2 : Nat) : Int)))), (56, Pr.t3 (Pr.ag (fun x => Value.agg #[x]) (Pr.sl' Str 0 0 ((addS items s).1))) (Pr.ex (i64 ((addS items s).2.1))) (Pr.ex (i64 (((addS items s).2.2 : Nat) : Int)))), (60, Pr.ag (fun x => Value.agg #[x]) (Pr.sl' Str 0 0 ((addS items s).1))), (61, Pr.ex (i64 ((addS items s).2.1))), (62, Pr.ex (i64 (((addS items s).2.2 : Nat) : Int)))] 7 hN_15 hD_15 (by kernel_rfl) (by kernel_rfl) ?_ ?_
    · refine Asks.cons ?_ (Asks.cons ?_ (Asks.cons ?_ (Asks.cons ?_ (Asks.cons ?_ (Asks.cons ?_ (Asks.cons ?_ (Asks.zero _)))))))
      · refine Ask.plain rfl rfl ?_
        intro aq wq hNq hO hR hT
        exact does_loadD (o := 0) (n := 1) (mid := [x1]) ((hO 3 rfl).trans s3_15) (hbb3_15.ext' hR) rfl rfl (Nat.le_of_ble_eq_true rfl) row_24 rfl ⟨Ext.refl _, rfl⟩
      · refine Ask.plain rfl rfl ?_
        intro aq wq hNq hO hR hT
        exact does_move (V := str (s)) ((hO 2 rfl).trans s2_15) ⟨Ext.refl _, rfl⟩
      · refine Ask.plain rfl rfl ?_
        intro aq wq hNq hO hR hT
        exact does_ret (vs := #[Value.agg #[x1], str (s)]) call_19 (args2 (hT 57 rfl rfl) (hT 58 rfl rfl)) rfl ((add_ items s (x1) wq (hL.ext (hE_15.trans hR)) ((hsx1_15.ext' hR).wide (Nat.zero_le _) (.inl rfl)) hs hn (by omega)).mono fun v w2 h => ⟨h.2, by obtain ⟨x0, x1, x2, hv, k0, k1, k2⟩ := h.1; exact ⟨x0, x1, x2, hv, k0, k1, k2⟩⟩)
      · refine Ask.plain rfl rfl ?_
        intro aq wq hNq hO hR hT
        exact does_move rfl ⟨Ext.refl _, (hT 59 rfl rfl)⟩
      · refine Ask.plain rfl rfl ?_
        intro aq wq hNq hO hR hT
        obtain ⟨x0, x1, x2, hv, k0, k1, k2⟩ := (hT 56 rfl rfl)
        exact does_extract hv rfl ⟨Ext.refl _, k0⟩
      · refine Ask.plain rfl rfl ?_
        intro aq wq hNq hO hR hT
        obtain ⟨x0, x1, x2, hv, k0, k1, k2⟩ := (hT 56 rfl rfl)
        exact does_extract (V := i64 ((addS items s).2.1)) hv (by rw [show x1 = i64 ((addS items s).2.1) from k1]; rfl) ⟨Ext.refl _, rfl⟩
      · refine Ask.plain rfl rfl ?_
        intro aq wq hNq hO hR hT
        obtain ⟨x0, x1, x2, hv, k0, k1, k2⟩ := (hT 56 rfl rfl)
        exact does_extract (V := i64 (((addS items s).2.2 : Nat) : Int)) hv (by rw [show x2 = i64 (((addS items s).2.2 : Nat) : Int) from k2]; rfl) ⟨Ext.refl _, rfl⟩
    intro a16 wd16 hN_16 hD_16 hO hR hA hU
    obtain ⟨_, _, _, _, t60, t61, t62, _⟩ := hA
    have hE_16 := hE_15.trans hR
    have s7_16 := (hO 7 rfl).trans s7_15
    have hbb3_16 := hbb3_15.ext' hR
    have hbb7_16 := hbb7_15.ext' hR
    have hbb9_16 := hbb9_15.ext' hR
    have hsx1_16 := hsx1_15.ext' hR
    have hsx43_16 := hsx43_15.ext' hR
    obtain ⟨x60_0_16, s60_16, ky60_0_16⟩ := t60
    have hsx60_0_16_16 : SlT Str 0 0 ((addS items s).1) x60_0_16 wd16 := ky60_0_16
    have s61_16 : get a16 61 = i64 ((addS items s).2.1) := t61
    have s62_16 : get a16 62 = i64 (((addS items s).2.2 : Nat) : Int) := t62
    clear hE_15 hN_15 hD_15 s2_15 s3_15 s7_15 s55_15 hbb3_15 hbb7_15 hbb9_15 hsx1_15 hsx43_15
    refine tail_put rfl rfl hN_16 hD_16 (by decide) (does_alloc zero_24 (fun b10 wd17 he lo_b10 hbb10_17 => fun a17 hN_17 hD_17 hv hO => ?_))
    have s10_17 := hv
    have hE_17 := hE_16.trans he
    have hbb3_17 := hbb3_16.ext' he
    have hbb7_17 := hbb7_16.ext' he
    have hbb9_17 := hbb9_16.ext' he
    have hsx1_17 := hsx1_16.ext' he
    have hsx43_17 := hsx43_16.ext' he
    have hsx60_0_16_17 := hsx60_0_16_16.ext' he
    have fr_b10 : w0.heap.size ≤ b10 := Nat.le_trans hE_16.size' lo_b10
    have ne_b3_b10 : b3 ≠ b10 := fun e => Nat.lt_irrefl _ (Nat.lt_of_lt_of_le hbb3_16.lt (e ▸ lo_b10))
    have ne_b7_b10 : b7 ≠ b10 := fun e => Nat.lt_irrefl _ (Nat.lt_of_lt_of_le hbb7_16.lt (e ▸ lo_b10))
    have ne_b9_b10 : b9 ≠ b10 := fun e => Nat.lt_irrefl _ (Nat.lt_of_lt_of_le hbb9_16.lt (e ▸ lo_b10))
    have nb_x1_b10 := SlT.old hsx1_16 lo_b10
    have nb_x43_b10 := SlT.old hsx43_16 lo_b10
    have nb_x60_0_16_b10 := SlT.old hsx60_0_16_16 lo_b10
    have s7_17 := (hO 7 rfl).trans s7_16
    have s60_17 := (hO 60 rfl).trans s60_16
    have s61_17 := (hO 61 rfl).trans s61_16
    have s62_17 := (hO 62 rfl).trans s62_16
    clear hO hv hN_16 hD_16 hE_16 hbb3_16 hbb7_16 hbb9_16 hsx1_16 hsx43_16 hsx60_0_16_16 s7_16 s60_16 s61_16 s62_16
    refine tail_none rfl rfl (does_storeD (o := 0) (n := 1) (cs' := [x60_0_16]) (V := Value.agg #[x60_0_16]) s10_17 s60_17 hbb10_17 (Nat.le_of_ble_eq_true rfl) rfl siz_24 (one_cons (SlT.one hsx60_0_16_17) one_nil) rfl (fun wd18 hX hz hbb10_18 => ?_))
    have hE_18 := hE_17.since hX (fun k e => e ▸ fr_b10)
    have hbb3_18 := hbb3_17.ext hX ne_b3_b10
    have hbb7_18 := hbb7_17.ext hX ne_b7_b10
    have hbb9_18 := hbb9_17.ext hX ne_b9_b10
    have hsx1_18 := SlT.over hsx1_17 hX nb_x1_b10
    have hsx43_18 := SlT.over hsx43_17 hX nb_x43_b10
    have hsx60_0_16_18 := SlT.over hsx60_0_16_17 hX nb_x60_0_16_b10
    clear hX hz hE_17 hbb3_17 hbb7_17 hbb9_17 hbb10_17 hsx1_17 hsx43_17 hsx60_0_16_17
    refine tail_put rfl rfl hN_17 hD_17 (by decide) (does_assign (V := i64 ((addS items s).2.1)) s61_17 (fun a19 hN_19 hD_19 hv hO => ?_))
    have s11_19 := hv
    have s7_19 := (hO 7 rfl).trans s7_17
    have s10_19 := (hO 10 rfl).trans s10_17
    have s62_19 := (hO 62 rfl).trans s62_17
    clear hO hv hN_17 hD_17 s7_17 s10_17 s60_17 s61_17 s62_17
    refine tail_put rfl rfl hN_19 hD_19 (by decide) (does_assign (V := i64 (((addS items s).2.2 : Nat) : Int)) s62_19 (fun a20 hN_20 hD_20 hv hO => ?_))
    have s12_20 := hv
    have s7_20 := (hO 7 rfl).trans s7_19
    have s10_20 := (hO 10 rfl).trans s10_19
    clear hO hv hN_19 hD_19 s7_19 s10_19 s11_19 s62_19
    refine tail_nil ?_
    refine wp_seq ?_
    refine region_lex [] [(63, Pr.ex (i64 (((addS items s).2.2 : Nat) : Int))), (64, Pr.ex (Value.bool (!decide ((((addS items s).2.2 : Nat) : Int) = ((0 : Nat) : Int))))), (65, Pr.ex (Value.bool (!decide ((((addS items s).2.2 : Nat) : Int) = ((0 : Nat) : Int))))), (66, Pr.ifb (!(!decide ((((addS items s).2.2 : Nat) : Int) = ((0 : Nat) : Int)))) (Pr.ex (Value.agg #[x60_0_16]))), (67, Pr.ifb (!(!decide ((((addS items s).2.2 : Nat) : Int) = ((0 : Nat) : Int)))) (Pr.ex (Value.agg #[i64 ((items.length : Nat) : Int), w32 (root (items.map of)).a, w32 (root (items.map of)).b, w32 (root (items.map of)).c, w32 (root (items.map of)).d]))), (68, Pr.ifb (!(!decide ((((addS items s).2.2 : Nat) : Int) = ((0 : Nat) : Int)))) (Pr.ex (i64 ((lost ((addS items s).1) (⟨((items.length : Nat) : Int), root (items.map of)⟩ : Head) : Nat) : Int)))), (69, Pr.ifb (!(!decide ((((addS items s).2.2 : Nat) : Int) = ((0 : Nat) : Int)))) (Pr.ex (Value.bool (decide (((lost ((addS items s).1) (⟨((items.length : Nat) : Int), root (items.map of)⟩ : Head) : Nat) : Int) = ((0 : Nat) : Int)))))), (70, Pr.ex (Value.bool ((!decide ((((addS items s).2.2 : Nat) : Int) = ((0 : Nat) : Int))) || (decide (((lost ((addS items s).1) (⟨((items.length : Nat) : Int), root (items.map of)⟩ : Head) : Nat) : Int) = ((0 : Nat) : Int)))))), (6, Pr.ex (Value.bool ((!decide ((((addS items s).2.2 : Nat) : Int) = ((0 : Nat) : Int))) || (decide (((lost ((addS items s).1) (⟨((items.length : Nat) : Int), root (items.map of)⟩ : Head) : Nat) : Int) = ((0 : Nat) : Int))))))] 9 hN_20 hD_20 (by kernel_rfl) (by kernel_rfl) ?_ ?_
    · refine Asks.cons ?_ (Asks.cons ?_ (Asks.cons ?_ (Asks.cons ?_ (Asks.cons ?_ (Asks.cons ?_ (Asks.cons ?_ (Asks.cons ?_ (Asks.cons ?_ (Asks.zero _)))))))))
      · refine Ask.plain rfl rfl ?_
        intro aq wq hNq hO hR hT
        exact does_move (V := i64 (((addS items s).2.2 : Nat) : Int)) ((hO 12 rfl).trans s12_20) ⟨Ext.refl _, rfl⟩
      · refine Ask.plain rfl rfl ?_
        intro aq wq hNq hO hR hT
        exact does_neq (a := (((addS items s).2.2 : Nat) : Int)) (b := ((0 : Nat) : Int)) (hT 63 rfl rfl) rfl ⟨Ext.refl _, rfl⟩
      · refine Ask.plain rfl rfl ?_
        intro aq wq hNq hO hR hT
        exact does_move (V := Value.bool (!decide ((((addS items s).2.2 : Nat) : Int) = ((0 : Nat) : Int)))) (hT 64 rfl rfl) ⟨Ext.refl _, rfl⟩
      · refine Ask.guarded (B := !decide ((((addS items s).2.2 : Nat) : Int) = ((0 : Nat) : Int))) (want := false) (t := 65) rfl rfl rfl rfl (by decide) (fun aq wq hO hR hT => hT 65 rfl rfl) (fun hG aq wq hNq hO hR hT => ?_) (fun hno _ hc => absurd (bn hc) hno)
        replace hG := nb hG
        exact does_loadD (o := 0) (n := 1) (mid := [x60_0_16]) ((hO 10 rfl).trans s10_20) (hbb10_18.ext' hR) rfl rfl (Nat.le_of_ble_eq_true rfl) row_24 rfl ⟨Ext.refl _, fun _ => rfl⟩
      · refine Ask.guarded (B := !decide ((((addS items s).2.2 : Nat) : Int) = ((0 : Nat) : Int))) (want := false) (t := 65) rfl rfl rfl rfl (by decide) (fun aq wq hO hR hT => hT 65 rfl rfl) (fun hG aq wq hNq hO hR hT => ?_) (fun hno _ hc => absurd (bn hc) hno)
        replace hG := nb hG
        exact does_loadD (o := 0) (n := 5) (mid := [i64 ((items.length : Nat) : Int), w32 (root (items.map of)).a, w32 (root (items.map of)).b, w32 (root (items.map of)).c, w32 (root (items.map of)).d]) ((hO 7 rfl).trans s7_20) (hbb7_18.ext' hR) rfl rfl (Nat.le_of_ble_eq_true rfl) row_29 rfl ⟨Ext.refl _, fun _ => rfl⟩
      · refine Ask.guarded (B := !decide ((((addS items s).2.2 : Nat) : Int) = ((0 : Nat) : Int))) (want := false) (t := 65) rfl rfl rfl rfl (by decide) (fun aq wq hO hR hT => hT 65 rfl rfl) (fun hG aq wq hNq hO hR hT => ?_) (fun hno _ hc => absurd (bn hc) hno)
        replace hG := nb hG
        exact does_ret (vs := #[Value.agg #[x60_0_16], Value.agg #[i64 ((items.length : Nat) : Int), w32 (root (items.map of)).a, w32 (root (items.map of)).b, w32 (root (items.map of)).c, w32 (root (items.map of)).d]]) call_14 (args2 (hT 66 rfl rfl (hG)) (hT 67 rfl rfl (hG))) rfl ((lost_ ((addS items s).1) (x60_0_16) (⟨((items.length : Nat) : Int), root (items.map of)⟩ : Head) wq (hL.ext (hE_18.trans hR)) ((hsx60_0_16_18.ext' hR).wide (Nat.zero_le _) (.inl rfl)) (fun y hy => (add_le.2 y hy).elim (hs y) (fun e => by rw [e]; omega)) (by have := (add_le (l := items) (x := s)).1; omega)).mono fun v w2 h => ⟨h.2, fun _ => h.1⟩)
      · refine Ask.guarded (B := !decide ((((addS items s).2.2 : Nat) : Int) = ((0 : Nat) : Int))) (want := false) (t := 65) rfl rfl rfl rfl (by decide) (fun aq wq hO hR hT => hT 65 rfl rfl) (fun hG aq wq hNq hO hR hT => ?_) (fun hno _ hc => absurd (bn hc) hno)
        replace hG := nb hG
        exact does_eql (a := ((lost ((addS items s).1) (⟨((items.length : Nat) : Int), root (items.map of)⟩ : Head) : Nat) : Int)) (b := ((0 : Nat) : Int)) (hT 68 rfl rfl (hG)) rfl ⟨Ext.refl _, fun _ => rfl⟩
      · refine Ask.plain rfl rfl ?_
        intro aq wq hNq hO hR hT
        exact does_or (B := !decide ((((addS items s).2.2 : Nat) : Int) = ((0 : Nat) : Int))) (X := decide (((lost ((addS items s).1) (⟨((items.length : Nat) : Int), root (items.map of)⟩ : Head) : Nat) : Int) = ((0 : Nat) : Int))) (hT 65 rfl rfl) rfl (fun hB => (hT 69 rfl rfl (nb hB))) ⟨Ext.refl _, rfl⟩
      · refine Ask.plain rfl rfl ?_
        intro aq wq hNq hO hR hT
        exact does_assign (V := Value.bool ((!decide ((((addS items s).2.2 : Nat) : Int) = ((0 : Nat) : Int))) || (decide (((lost ((addS items s).1) (⟨((items.length : Nat) : Int), root (items.map of)⟩ : Head) : Nat) : Int) = ((0 : Nat) : Int))))) (hT 70 rfl rfl) ⟨Ext.refl _, rfl⟩
    intro a21 wd21 hN_21 hD_21 hO hR hA hU
    obtain ⟨_, _, _, _, _, _, _, _, t6, _⟩ := hA
    have hE_21 := hE_18.trans hR
    have hbb3_21 := hbb3_18.ext' hR
    have hbb7_21 := hbb7_18.ext' hR
    have hbb9_21 := hbb9_18.ext' hR
    have hbb10_21 := hbb10_18.ext' hR
    have hsx1_21 := hsx1_18.ext' hR
    have hsx43_21 := hsx43_18.ext' hR
    have hsx60_0_16_21 := hsx60_0_16_18.ext' hR
    have s6_21 : get a21 6 = Value.bool ((!decide ((((addS items s).2.2 : Nat) : Int) = ((0 : Nat) : Int))) || (decide (((lost ((addS items s).1) (⟨((items.length : Nat) : Int), root (items.map of)⟩ : Head) : Nat) : Int) = ((0 : Nat) : Int)))) := t6
    clear hE_18 hN_20 hD_20 s7_20 s10_20 s12_20 hbb3_18 hbb7_18 hbb9_18 hbb10_18 hsx1_18 hsx43_18 hsx60_0_16_18
    refine tail_nil ?_
    refine wp_ret ?_
    refine res_one (V := Value.bool ((!decide ((((addS items s).2.2 : Nat) : Int) = ((0 : Nat) : Int))) || (decide (((lost ((addS items s).1) (⟨((items.length : Nat) : Int), root (items.map of)⟩ : Head) : Nat) : Int) = ((0 : Nat) : Int))))) rfl hD_21 s6_21 ?_
    exact ⟨congrArg Value.bool (tail_law items s), hE_21⟩
  have hc2 := of_decide_eq_false hc2
  refine wp_skip ?_
  refine wp_seq ?_
  refine region_lex [] [(57, Pr.ex (Value.agg #[x1])), (58, Pr.ex (str (s))), (59, Pr.t3 (Pr.ag (fun x => Value.agg #[x]) (Pr.sl' Str 0 0 ((addS items s).1))) (Pr.ex (i64 ((addS items s).2.1))) (Pr.ex (i64 (((addS items s).2.2 : Nat) : Int)))), (56, Pr.t3 (Pr.ag (fun x => Value.agg #[x]) (Pr.sl' Str 0 0 ((addS items s).1))) (Pr.ex (i64 ((addS items s).2.1))) (Pr.ex (i64 (((addS items s).2.2 : Nat) : Int)))), (60, Pr.ag (fun x => Value.agg #[x]) (Pr.sl' Str 0 0 ((addS items s).1))), (61, Pr.ex (i64 ((addS items s).2.1))), (62, Pr.ex (i64 (((addS items s).2.2 : Nat) : Int)))] 7 hN_8 hD_8 (by kernel_rfl) (by kernel_rfl) ?_ ?_
  · refine Asks.cons ?_ (Asks.cons ?_ (Asks.cons ?_ (Asks.cons ?_ (Asks.cons ?_ (Asks.cons ?_ (Asks.cons ?_ (Asks.zero _)))))))
    · refine Ask.plain rfl rfl ?_
      intro aq wq hNq hO hR hT
      exact does_loadD (o := 0) (n := 1) (mid := [x1]) ((hO 3 rfl).trans s3_8) (hbb3_8.ext' hR) rfl rfl (Nat.le_of_ble_eq_true rfl) row_24 rfl ⟨Ext.refl _, rfl⟩
    · refine Ask.plain rfl rfl ?_
      intro aq wq hNq hO hR hT
      exact does_move (V := str (s)) ((hO 2 rfl).trans s2_8) ⟨Ext.refl _, rfl⟩
    · refine Ask.plain rfl rfl ?_
      intro aq wq hNq hO hR hT
      exact does_ret (vs := #[Value.agg #[x1], str (s)]) call_19 (args2 (hT 57 rfl rfl) (hT 58 rfl rfl)) rfl ((add_ items s (x1) wq (hL.ext (hE_8.trans hR)) ((hsx1_8.ext' hR).wide (Nat.zero_le _) (.inl rfl)) hs hn (by omega)).mono fun v w2 h => ⟨h.2, by obtain ⟨x0, x1, x2, hv, k0, k1, k2⟩ := h.1; exact ⟨x0, x1, x2, hv, k0, k1, k2⟩⟩)
    · refine Ask.plain rfl rfl ?_
      intro aq wq hNq hO hR hT
      exact does_move rfl ⟨Ext.refl _, (hT 59 rfl rfl)⟩
    · refine Ask.plain rfl rfl ?_
      intro aq wq hNq hO hR hT
      obtain ⟨x0, x1, x2, hv, k0, k1, k2⟩ := (hT 56 rfl rfl)
      exact does_extract hv rfl ⟨Ext.refl _, k0⟩
    · refine Ask.plain rfl rfl ?_
      intro aq wq hNq hO hR hT
      obtain ⟨x0, x1, x2, hv, k0, k1, k2⟩ := (hT 56 rfl rfl)
      exact does_extract (V := i64 ((addS items s).2.1)) hv (by rw [show x1 = i64 ((addS items s).2.1) from k1]; rfl) ⟨Ext.refl _, rfl⟩
    · refine Ask.plain rfl rfl ?_
      intro aq wq hNq hO hR hT
      obtain ⟨x0, x1, x2, hv, k0, k1, k2⟩ := (hT 56 rfl rfl)
      exact does_extract (V := i64 (((addS items s).2.2 : Nat) : Int)) hv (by rw [show x2 = i64 (((addS items s).2.2 : Nat) : Int) from k2]; rfl) ⟨Ext.refl _, rfl⟩
  intro a22 wd22 hN_22 hD_22 hO hR hA hU
  obtain ⟨_, _, _, _, t60, t61, t62, _⟩ := hA
  have hE_22 := hE_8.trans hR
  have s7_22 := (hO 7 rfl).trans s7_8
  have hbb3_22 := hbb3_8.ext' hR
  have hbb7_22 := hbb7_8.ext' hR
  have hsx1_22 := hsx1_8.ext' hR
  obtain ⟨x60_0_22, s60_22, ky60_0_22⟩ := t60
  have hsx60_0_22_22 : SlT Str 0 0 ((addS items s).1) x60_0_22 wd22 := ky60_0_22
  have s61_22 : get a22 61 = i64 ((addS items s).2.1) := t61
  have s62_22 : get a22 62 = i64 (((addS items s).2.2 : Nat) : Int) := t62
  clear hE_8 hN_8 hD_8 s1_8 s2_8 s3_8 s7_8 s32_8 hbb3_8 hbb7_8 hsx1_8
  refine tail_put rfl rfl hN_22 hD_22 (by decide) (does_alloc zero_24 (fun b10_1 wd23 he lo_b10_1 hbb10_1_23 => fun a23 hN_23 hD_23 hv hO => ?_))
  have s10_23 := hv
  have hE_23 := hE_22.trans he
  have hbb3_23 := hbb3_22.ext' he
  have hbb7_23 := hbb7_22.ext' he
  have hsx1_23 := hsx1_22.ext' he
  have hsx60_0_22_23 := hsx60_0_22_22.ext' he
  have fr_b10_1 : w0.heap.size ≤ b10_1 := Nat.le_trans hE_22.size' lo_b10_1
  have ne_b3_b10_1 : b3 ≠ b10_1 := fun e => Nat.lt_irrefl _ (Nat.lt_of_lt_of_le hbb3_22.lt (e ▸ lo_b10_1))
  have ne_b7_b10_1 : b7 ≠ b10_1 := fun e => Nat.lt_irrefl _ (Nat.lt_of_lt_of_le hbb7_22.lt (e ▸ lo_b10_1))
  have nb_x1_b10_1 := SlT.old hsx1_22 lo_b10_1
  have nb_x60_0_22_b10_1 := SlT.old hsx60_0_22_22 lo_b10_1
  have s7_23 := (hO 7 rfl).trans s7_22
  have s60_23 := (hO 60 rfl).trans s60_22
  have s61_23 := (hO 61 rfl).trans s61_22
  have s62_23 := (hO 62 rfl).trans s62_22
  clear hO hv hN_22 hD_22 hE_22 hbb3_22 hbb7_22 hsx1_22 hsx60_0_22_22 s7_22 s60_22 s61_22 s62_22
  refine tail_none rfl rfl (does_storeD (o := 0) (n := 1) (cs' := [x60_0_22]) (V := Value.agg #[x60_0_22]) s10_23 s60_23 hbb10_1_23 (Nat.le_of_ble_eq_true rfl) rfl siz_24 (one_cons (SlT.one hsx60_0_22_23) one_nil) rfl (fun wd24 hX hz hbb10_1_24 => ?_))
  have hE_24 := hE_23.since hX (fun k e => e ▸ fr_b10_1)
  have hbb3_24 := hbb3_23.ext hX ne_b3_b10_1
  have hbb7_24 := hbb7_23.ext hX ne_b7_b10_1
  have hsx1_24 := SlT.over hsx1_23 hX nb_x1_b10_1
  have hsx60_0_22_24 := SlT.over hsx60_0_22_23 hX nb_x60_0_22_b10_1
  clear hX hz hE_23 hbb3_23 hbb7_23 hbb10_1_23 hsx1_23 hsx60_0_22_23
  refine tail_put rfl rfl hN_23 hD_23 (by decide) (does_assign (V := i64 ((addS items s).2.1)) s61_23 (fun a25 hN_25 hD_25 hv hO => ?_))
  have s11_25 := hv
  have s7_25 := (hO 7 rfl).trans s7_23
  have s10_25 := (hO 10 rfl).trans s10_23
  have s62_25 := (hO 62 rfl).trans s62_23
  clear hO hv hN_23 hD_23 s7_23 s10_23 s60_23 s61_23 s62_23
  refine tail_put rfl rfl hN_25 hD_25 (by decide) (does_assign (V := i64 (((addS items s).2.2 : Nat) : Int)) s62_25 (fun a26 hN_26 hD_26 hv hO => ?_))
  have s12_26 := hv
  have s7_26 := (hO 7 rfl).trans s7_25
  have s10_26 := (hO 10 rfl).trans s10_25
  clear hO hv hN_25 hD_25 s7_25 s10_25 s11_25 s62_25
  refine tail_nil ?_
  refine wp_seq ?_
  refine region_lex [] [(63, Pr.ex (i64 (((addS items s).2.2 : Nat) : Int))), (64, Pr.ex (Value.bool (!decide ((((addS items s).2.2 : Nat) : Int) = ((0 : Nat) : Int))))), (65, Pr.ex (Value.bool (!decide ((((addS items s).2.2 : Nat) : Int) = ((0 : Nat) : Int))))), (66, Pr.ifb (!(!decide ((((addS items s).2.2 : Nat) : Int) = ((0 : Nat) : Int)))) (Pr.ex (Value.agg #[x60_0_22]))), (67, Pr.ifb (!(!decide ((((addS items s).2.2 : Nat) : Int) = ((0 : Nat) : Int)))) (Pr.ex (Value.agg #[i64 ((items.length : Nat) : Int), w32 (root (items.map of)).a, w32 (root (items.map of)).b, w32 (root (items.map of)).c, w32 (root (items.map of)).d]))), (68, Pr.ifb (!(!decide ((((addS items s).2.2 : Nat) : Int) = ((0 : Nat) : Int)))) (Pr.ex (i64 ((lost ((addS items s).1) (⟨((items.length : Nat) : Int), root (items.map of)⟩ : Head) : Nat) : Int)))), (69, Pr.ifb (!(!decide ((((addS items s).2.2 : Nat) : Int) = ((0 : Nat) : Int)))) (Pr.ex (Value.bool (decide (((lost ((addS items s).1) (⟨((items.length : Nat) : Int), root (items.map of)⟩ : Head) : Nat) : Int) = ((0 : Nat) : Int)))))), (70, Pr.ex (Value.bool ((!decide ((((addS items s).2.2 : Nat) : Int) = ((0 : Nat) : Int))) || (decide (((lost ((addS items s).1) (⟨((items.length : Nat) : Int), root (items.map of)⟩ : Head) : Nat) : Int) = ((0 : Nat) : Int)))))), (6, Pr.ex (Value.bool ((!decide ((((addS items s).2.2 : Nat) : Int) = ((0 : Nat) : Int))) || (decide (((lost ((addS items s).1) (⟨((items.length : Nat) : Int), root (items.map of)⟩ : Head) : Nat) : Int) = ((0 : Nat) : Int))))))] 9 hN_26 hD_26 (by kernel_rfl) (by kernel_rfl) ?_ ?_
  · refine Asks.cons ?_ (Asks.cons ?_ (Asks.cons ?_ (Asks.cons ?_ (Asks.cons ?_ (Asks.cons ?_ (Asks.cons ?_ (Asks.cons ?_ (Asks.cons ?_ (Asks.zero _)))))))))
    · refine Ask.plain rfl rfl ?_
      intro aq wq hNq hO hR hT
      exact does_move (V := i64 (((addS items s).2.2 : Nat) : Int)) ((hO 12 rfl).trans s12_26) ⟨Ext.refl _, rfl⟩
    · refine Ask.plain rfl rfl ?_
      intro aq wq hNq hO hR hT
      exact does_neq (a := (((addS items s).2.2 : Nat) : Int)) (b := ((0 : Nat) : Int)) (hT 63 rfl rfl) rfl ⟨Ext.refl _, rfl⟩
    · refine Ask.plain rfl rfl ?_
      intro aq wq hNq hO hR hT
      exact does_move (V := Value.bool (!decide ((((addS items s).2.2 : Nat) : Int) = ((0 : Nat) : Int)))) (hT 64 rfl rfl) ⟨Ext.refl _, rfl⟩
    · refine Ask.guarded (B := !decide ((((addS items s).2.2 : Nat) : Int) = ((0 : Nat) : Int))) (want := false) (t := 65) rfl rfl rfl rfl (by decide) (fun aq wq hO hR hT => hT 65 rfl rfl) (fun hG aq wq hNq hO hR hT => ?_) (fun hno _ hc => absurd (bn hc) hno)
      replace hG := nb hG
      exact does_loadD (o := 0) (n := 1) (mid := [x60_0_22]) ((hO 10 rfl).trans s10_26) (hbb10_1_24.ext' hR) rfl rfl (Nat.le_of_ble_eq_true rfl) row_24 rfl ⟨Ext.refl _, fun _ => rfl⟩
    · refine Ask.guarded (B := !decide ((((addS items s).2.2 : Nat) : Int) = ((0 : Nat) : Int))) (want := false) (t := 65) rfl rfl rfl rfl (by decide) (fun aq wq hO hR hT => hT 65 rfl rfl) (fun hG aq wq hNq hO hR hT => ?_) (fun hno _ hc => absurd (bn hc) hno)
      replace hG := nb hG
      exact does_loadD (o := 0) (n := 5) (mid := [i64 ((items.length : Nat) : Int), w32 (root (items.map of)).a, w32 (root (items.map of)).b, w32 (root (items.map of)).c, w32 (root (items.map of)).d]) ((hO 7 rfl).trans s7_26) (hbb7_24.ext' hR) rfl rfl (Nat.le_of_ble_eq_true rfl) row_29 rfl ⟨Ext.refl _, fun _ => rfl⟩
    · refine Ask.guarded (B := !decide ((((addS items s).2.2 : Nat) : Int) = ((0 : Nat) : Int))) (want := false) (t := 65) rfl rfl rfl rfl (by decide) (fun aq wq hO hR hT => hT 65 rfl rfl) (fun hG aq wq hNq hO hR hT => ?_) (fun hno _ hc => absurd (bn hc) hno)
      replace hG := nb hG
      exact does_ret (vs := #[Value.agg #[x60_0_22], Value.agg #[i64 ((items.length : Nat) : Int), w32 (root (items.map of)).a, w32 (root (items.map of)).b, w32 (root (items.map of)).c, w32 (root (items.map of)).d]]) call_14 (args2 (hT 66 rfl rfl (hG)) (hT 67 rfl rfl (hG))) rfl ((lost_ ((addS items s).1) (x60_0_22) (⟨((items.length : Nat) : Int), root (items.map of)⟩ : Head) wq (hL.ext (hE_24.trans hR)) ((hsx60_0_22_24.ext' hR).wide (Nat.zero_le _) (.inl rfl)) (fun y hy => (add_le.2 y hy).elim (hs y) (fun e => by rw [e]; omega)) (by have := (add_le (l := items) (x := s)).1; omega)).mono fun v w2 h => ⟨h.2, fun _ => h.1⟩)
    · refine Ask.guarded (B := !decide ((((addS items s).2.2 : Nat) : Int) = ((0 : Nat) : Int))) (want := false) (t := 65) rfl rfl rfl rfl (by decide) (fun aq wq hO hR hT => hT 65 rfl rfl) (fun hG aq wq hNq hO hR hT => ?_) (fun hno _ hc => absurd (bn hc) hno)
      replace hG := nb hG
      exact does_eql (a := ((lost ((addS items s).1) (⟨((items.length : Nat) : Int), root (items.map of)⟩ : Head) : Nat) : Int)) (b := ((0 : Nat) : Int)) (hT 68 rfl rfl (hG)) rfl ⟨Ext.refl _, fun _ => rfl⟩
    · refine Ask.plain rfl rfl ?_
      intro aq wq hNq hO hR hT
      exact does_or (B := !decide ((((addS items s).2.2 : Nat) : Int) = ((0 : Nat) : Int))) (X := decide (((lost ((addS items s).1) (⟨((items.length : Nat) : Int), root (items.map of)⟩ : Head) : Nat) : Int) = ((0 : Nat) : Int))) (hT 65 rfl rfl) rfl (fun hB => (hT 69 rfl rfl (nb hB))) ⟨Ext.refl _, rfl⟩
    · refine Ask.plain rfl rfl ?_
      intro aq wq hNq hO hR hT
      exact does_assign (V := Value.bool ((!decide ((((addS items s).2.2 : Nat) : Int) = ((0 : Nat) : Int))) || (decide (((lost ((addS items s).1) (⟨((items.length : Nat) : Int), root (items.map of)⟩ : Head) : Nat) : Int) = ((0 : Nat) : Int))))) (hT 70 rfl rfl) ⟨Ext.refl _, rfl⟩
  intro a27 wd27 hN_27 hD_27 hO hR hA hU
  obtain ⟨_, _, _, _, _, _, _, _, t6, _⟩ := hA
  have hE_27 := hE_24.trans hR
  have hbb3_27 := hbb3_24.ext' hR
  have hbb7_27 := hbb7_24.ext' hR
  have hbb10_1_27 := hbb10_1_24.ext' hR
  have hsx1_27 := hsx1_24.ext' hR
  have hsx60_0_22_27 := hsx60_0_22_24.ext' hR
  have s6_27 : get a27 6 = Value.bool ((!decide ((((addS items s).2.2 : Nat) : Int) = ((0 : Nat) : Int))) || (decide (((lost ((addS items s).1) (⟨((items.length : Nat) : Int), root (items.map of)⟩ : Head) : Nat) : Int) = ((0 : Nat) : Int)))) := t6
  clear hE_24 hN_26 hD_26 s7_26 s10_26 s12_26 hbb3_24 hbb7_24 hbb10_1_24 hsx1_24 hsx60_0_22_24
  refine tail_nil ?_
  refine wp_ret ?_
  refine res_one (V := Value.bool ((!decide ((((addS items s).2.2 : Nat) : Int) = ((0 : Nat) : Int))) || (decide (((lost ((addS items s).1) (⟨((items.length : Nat) : Int), root (items.map of)⟩ : Head) : Nat) : Int) = ((0 : Nat) : Int))))) rfl hD_27 s6_27 ?_
  exact ⟨congrArg Value.bool (tail_law items s), hE_27⟩

end Go.Proofs.YtijfjpbahepegaaDoor
