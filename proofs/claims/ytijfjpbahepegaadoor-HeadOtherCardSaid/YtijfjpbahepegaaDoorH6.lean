/- The walks of functions of the program: printed. -/
import Derived.Test.YtijfjpbahepegaaDoorK19
import Derived.Test.YtijfjpbahepegaaDoorG3
import Derived.Test.YtijfjpbahepegaaDoorG8
import Derived.Test.YtijfjpbahepegaaDoorG9
import Derived.Test.YtijfjpbahepegaaDoorG13
import Derived.Test.YtijfjpbahepegaaDoorG41
import Derived.Test.YtijfjpbahepegaaDoorF0
set_option maxRecDepth 100000
namespace Go.Proofs.YtijfjpbahepegaaDoor
open Go Go.RowKit Sk Sd
theorem call_12 : Callable Tryd.prog 12 := ⟨_, Tryd.func12, by kernel_rfl, rfl⟩
theorem call_13 : Callable Tryd.prog 13 := ⟨_, Tryd.func13, by kernel_rfl, rfl⟩
theorem siz_9 : (Tryd.prog.info? 9).map (·.size) = some 1 := by kernel_rfl
theorem call_22 : Callable Tryd.prog 22 := ⟨_, Tryd.func22, by kernel_rfl, rfl⟩
theorem call_23 : Callable Tryd.prog 23 := ⟨_, Tryd.func23, by kernel_rfl, rfl⟩
theorem arr_44 : ArrIs Tryd.prog 44 2 27 4 := ⟨Tryd.underlying44, by kernel_rfl⟩
theorem headOther (items : List (List UInt8)) (x1 : Value) (which : UInt8) (s : List UInt8) (w0 : World) (hL : Laid w0) (hx1 : SlT Str 0 0 items x1 w0) :
    Gives Tryd.prog 6 #[Value.agg #[x1], w8 (which), str (s)] w0 (Pr.ex (Value.bool true)) := by
  refine enter (N := 106) Tryd.func6 rfl rfl ?_
  intro a0 hN_0 hD_0 hA
  have s0_0 : get a0 0 = Value.agg #[x1] := hA 0 _ rfl
  have s1_0 : get a0 1 = w8 (which) := hA 1 _ rfl
  have s2_0 : get a0 2 = str (s) := hA 2 _ rfl
  clear hA
  have hE_0 : Ext w0 w0 := Ext.refl w0
  have hsx1_0 := hx1.close
  refine wp_seq ?_
  refine region_lex [3] [(3, Pr.box' w0.heap.size 24 [x1]), (6, Pr.ex (Value.bool (false)))] 2 hN_0 hD_0 (by kernel_rfl) (by kernel_rfl) ?_ ?_
  · refine Asks.cons ?_ (Asks.cons ?_ (Asks.zero _))
    · refine Ask.fresh rfl rfl ?_
      intro aq wq hNq hO hR hT
      exact does_box (V := Value.agg #[x1]) ((hO 0 rfl).trans s0_0) (fun b w2 he hlo hb => ⟨he, ⟨b, rfl, Nat.le_trans hR.size' hlo, hb⟩, ⟨b, rfl, hlo, hb.lt⟩⟩)
    · refine Ask.plain rfl rfl ?_
      intro aq wq hNq hO hR hT
      exact does_assign (V := Value.bool (false)) rfl ⟨Ext.refl _, rfl⟩
  intro a1 wd1 hN_1 hD_1 hO hR hA hU
  obtain ⟨t3, _, _⟩ := hA
  have hE_1 := hE_0.trans hR
  have s1_1 := (hO 1 rfl).trans s1_0
  have s2_1 := (hO 2 rfl).trans s2_0
  have hsx1_1 := hsx1_0.ext' hR
  obtain ⟨b3, s3_1, lo_b3, hbb3_1⟩ := t3
  have nb_x1_b3 := SlT.old hsx1_0 lo_b3
  have fr_b3 : w0.heap.size ≤ b3 := Nat.le_trans hE_0.size' lo_b3
  clear hE_0 hN_0 hD_0 s0_0 s1_0 s2_0 hsx1_0
  refine tail_nil ?_
  refine wp_seq ?_
  refine wp_seq ?_
  refine region_lex [] [(16, Pr.ex (Value.bool (true))), (17, Pr.ex (Value.bool (false)))] 2 hN_1 hD_1 (by kernel_rfl) (by kernel_rfl) ?_ ?_
  · refine Asks.cons ?_ (Asks.cons ?_ (Asks.zero _))
    · refine Ask.plain rfl rfl ?_
      intro aq wq hNq hO hR hT
      exact does_ret (vs := #[]) call_12 args0 rfl ((alive43 wq (hL.ext (hE_1.trans hR))).mono fun v w2 h => ⟨h.2, h.1⟩)
    · refine Ask.plain rfl rfl ?_
      intro aq wq hNq hO hR hT
      exact does_not (B := true) (hT 16 rfl rfl) ⟨Ext.refl _, rfl⟩
  intro a2 wd2 hN_2 hD_2 hO hR hA hU
  obtain ⟨_, t17, _⟩ := hA
  have hE_2 := hE_1.trans hR
  have s1_2 := (hO 1 rfl).trans s1_1
  have s2_2 := (hO 2 rfl).trans s2_1
  have s3_2 := (hO 3 rfl).trans s3_1
  have hbb3_2 := hbb3_1.ext' hR
  have hsx1_2 := hsx1_1.ext' hR
  have s17_2 : get a2 17 = Value.bool (false) := t17
  clear hE_1 hN_1 hD_1 s1_1 s2_1 s3_1 hbb3_1 hsx1_1
  refine tail_nil ?_
  refine wp_ifF s17_2 ?_
  refine wp_skip ?_
  refine wp_seq ?_
  refine wp_seq ?_
  refine region_lex [] [(18, Pr.ex (Value.agg #[x1])), (19, Pr.ex (Value.bool (few items 20 300 && right items))), (20, Pr.ex (Value.bool (!(few items 20 300 && right items)))), (21, Pr.ex (Value.bool (!(few items 20 300 && right items)))), (22, Pr.ifb (!(!(few items 20 300 && right items))) (Pr.ex (Value.pointer (some ⟨b3, 0, none⟩)))), (23, Pr.ifb (!(!(few items 20 300 && right items))) (Pr.ex (x1))), (24, Pr.ifb (!(!(few items 20 300 && right items))) (Pr.ex (i64 ((items.length : Nat) : Int)))), (25, Pr.ifb (!(!(few items 20 300 && right items))) (Pr.ex (Value.bool (decide (((items.length : Nat) : Int) = ((0 : Nat) : Int)))))), (26, Pr.ex (Value.bool ((!(few items 20 300 && right items)) || (decide (((items.length : Nat) : Int) = ((0 : Nat) : Int)))))), (27, Pr.ex (Value.bool ((!(few items 20 300 && right items)) || (decide (((items.length : Nat) : Int) = ((0 : Nat) : Int)))))), (28, Pr.ifb (!((!(few items 20 300 && right items)) || (decide (((items.length : Nat) : Int) = ((0 : Nat) : Int))))) (Pr.ex (str (s)))), (29, Pr.ifb (!((!(few items 20 300 && right items)) || (decide (((items.length : Nat) : Int) = ((0 : Nat) : Int))))) (Pr.ex (i64 ((s.length : Nat) : Int)))), (30, Pr.ifb (!((!(few items 20 300 && right items)) || (decide (((items.length : Nat) : Int) = ((0 : Nat) : Int))))) (Pr.ex (Value.bool (decide (((300 : Nat) : Int) < ((s.length : Nat) : Int)))))), (31, Pr.ex (Value.bool (((!(few items 20 300 && right items)) || (decide (((items.length : Nat) : Int) = ((0 : Nat) : Int)))) || (decide (((300 : Nat) : Int) < ((s.length : Nat) : Int))))))] 14 hN_2 hD_2 (by kernel_rfl) (by kernel_rfl) ?_ ?_
  · refine Asks.cons ?_ (Asks.cons ?_ (Asks.cons ?_ (Asks.cons ?_ (Asks.cons ?_ (Asks.cons ?_ (Asks.cons ?_ (Asks.cons ?_ (Asks.cons ?_ (Asks.cons ?_ (Asks.cons ?_ (Asks.cons ?_ (Asks.cons ?_ (Asks.cons ?_ (Asks.zero _))))))))))))))
    · refine Ask.plain rfl rfl ?_
      intro aq wq hNq hO hR hT
      exact does_loadD (o := 0) (n := 1) (mid := [x1]) ((hO 3 rfl).trans s3_2) (hbb3_2.ext' hR) rfl rfl (Nat.le_of_ble_eq_true rfl) row_24 rfl ⟨Ext.refl _, rfl⟩
    · refine Ask.plain rfl rfl ?_
      intro aq wq hNq hO hR hT
      exact does_ret (vs := #[Value.agg #[x1]]) call_13 (args1 (hT 18 rfl rfl)) rfl ((few43 (items) (x1) wq ((hsx1_2.ext' hR).wide (Nat.zero_le _) (.inl rfl))).mono fun v w2 h => ⟨h.2, h.1⟩)
    · refine Ask.plain rfl rfl ?_
      intro aq wq hNq hO hR hT
      exact does_not (B := few items 20 300 && right items) (hT 19 rfl rfl) ⟨Ext.refl _, rfl⟩
    · refine Ask.plain rfl rfl ?_
      intro aq wq hNq hO hR hT
      exact does_move (V := Value.bool (!(few items 20 300 && right items))) (hT 20 rfl rfl) ⟨Ext.refl _, rfl⟩
    · refine Ask.guarded (B := !(few items 20 300 && right items)) (want := false) (t := 21) rfl rfl rfl rfl (by decide) (fun aq wq hO hR hT => hT 21 rfl rfl) (fun hG aq wq hNq hO hR hT => ?_) (fun hno _ hc => absurd (bn hc) hno)
      replace hG := nb hG
      exact does_field (o' := 0) fld_24_0 ((hO 3 rfl).trans s3_2) rfl ⟨Ext.refl _, fun _ => rfl⟩
    · refine Ask.guarded (B := !(few items 20 300 && right items)) (want := false) (t := 21) rfl rfl rfl rfl (by decide) (fun aq wq hO hR hT => hT 21 rfl rfl) (fun hG aq wq hNq hO hR hT => ?_) (fun hno _ hc => absurd (bn hc) hno)
      replace hG := nb hG
      exact does_loadD1 (o := 0) (V := x1) (hT 22 rfl rfl (hG)) (hbb3_2.ext' hR) rfl one_22 ⟨Ext.refl _, fun _ => rfl⟩
    · refine Ask.guarded (B := !(few items 20 300 && right items)) (want := false) (t := 21) rfl rfl rfl rfl (by decide) (fun aq wq hO hR hT => hT 21 rfl rfl) (fun hG aq wq hNq hO hR hT => ?_) (fun hno _ hc => absurd (bn hc) hno)
      replace hG := nb hG
      exact does_len (T := Str) (xs := items) sli_22 (SlT.at (hT 23 rfl rfl (hG)) (hsx1_2.ext' hR)) ⟨Ext.refl _, fun _ => rfl⟩
    · refine Ask.guarded (B := !(few items 20 300 && right items)) (want := false) (t := 21) rfl rfl rfl rfl (by decide) (fun aq wq hO hR hT => hT 21 rfl rfl) (fun hG aq wq hNq hO hR hT => ?_) (fun hno _ hc => absurd (bn hc) hno)
      replace hG := nb hG
      exact does_eql (a := ((items.length : Nat) : Int)) (b := ((0 : Nat) : Int)) (hT 24 rfl rfl (hG)) rfl ⟨Ext.refl _, fun _ => rfl⟩
    · refine Ask.plain rfl rfl ?_
      intro aq wq hNq hO hR hT
      exact does_or (B := !(few items 20 300 && right items)) (X := decide (((items.length : Nat) : Int) = ((0 : Nat) : Int))) (hT 21 rfl rfl) rfl (fun hB => (hT 25 rfl rfl (nb hB))) ⟨Ext.refl _, rfl⟩
    · refine Ask.plain rfl rfl ?_
      intro aq wq hNq hO hR hT
      exact does_move (V := Value.bool ((!(few items 20 300 && right items)) || (decide (((items.length : Nat) : Int) = ((0 : Nat) : Int))))) (hT 26 rfl rfl) ⟨Ext.refl _, rfl⟩
    · refine Ask.guarded (B := (!(few items 20 300 && right items)) || (decide (((items.length : Nat) : Int) = ((0 : Nat) : Int)))) (want := false) (t := 27) rfl rfl rfl rfl (by decide) (fun aq wq hO hR hT => hT 27 rfl rfl) (fun hG aq wq hNq hO hR hT => ?_) (fun hno _ hc => absurd (bn hc) hno)
      replace hG := nb hG
      exact does_move (V := str (s)) ((hO 2 rfl).trans s2_2) ⟨Ext.refl _, fun _ => rfl⟩
    · refine Ask.guarded (B := (!(few items 20 300 && right items)) || (decide (((items.length : Nat) : Int) = ((0 : Nat) : Int)))) (want := false) (t := 27) rfl rfl rfl rfl (by decide) (fun aq wq hO hR hT => hT 27 rfl rfl) (fun hG aq wq hNq hO hR hT => ?_) (fun hno _ hc => absurd (bn hc) hno)
      replace hG := nb hG
      exact does_lenStr (l := s) Tryd.underlying9 (hT 28 rfl rfl (hG)) ⟨Ext.refl _, fun _ => rfl⟩
    · refine Ask.guarded (B := (!(few items 20 300 && right items)) || (decide (((items.length : Nat) : Int) = ((0 : Nat) : Int)))) (want := false) (t := 27) rfl rfl rfl rfl (by decide) (fun aq wq hO hR hT => hT 27 rfl rfl) (fun hG aq wq hNq hO hR hT => ?_) (fun hno _ hc => absurd (bn hc) hno)
      replace hG := nb hG
      exact does_gtr (a := ((s.length : Nat) : Int)) (b := ((300 : Nat) : Int)) (hT 29 rfl rfl (hG)) rfl ⟨Ext.refl _, fun _ => rfl⟩
    · refine Ask.plain rfl rfl ?_
      intro aq wq hNq hO hR hT
      exact does_or (B := (!(few items 20 300 && right items)) || (decide (((items.length : Nat) : Int) = ((0 : Nat) : Int)))) (X := decide (((300 : Nat) : Int) < ((s.length : Nat) : Int))) (hT 27 rfl rfl) rfl (fun hB => (hT 30 rfl rfl (nb hB))) ⟨Ext.refl _, rfl⟩
  intro a3 wd3 hN_3 hD_3 hO hR hA hU
  obtain ⟨_, _, _, _, _, _, _, _, _, _, _, _, _, t31, _⟩ := hA
  have hE_3 := hE_2.trans hR
  have s1_3 := (hO 1 rfl).trans s1_2
  have s2_3 := (hO 2 rfl).trans s2_2
  have s3_3 := (hO 3 rfl).trans s3_2
  have hbb3_3 := hbb3_2.ext' hR
  have hsx1_3 := hsx1_2.ext' hR
  have s31_3 : get a3 31 = Value.bool (((!(few items 20 300 && right items)) || (decide (((items.length : Nat) : Int) = ((0 : Nat) : Int)))) || (decide (((300 : Nat) : Int) < ((s.length : Nat) : Int)))) := t31
  clear hE_2 hN_2 hD_2 s1_2 s2_2 s3_2 s17_2 hbb3_2 hsx1_2
  refine tail_nil ?_
  refine wp_if (B := ((!(few items 20 300 && right items)) || (decide (((items.length : Nat) : Int) = ((0 : Nat) : Int)))) || (decide (((300 : Nat) : Int) < ((s.length : Nat) : Int)))) s31_3 (fun hc0 => ?_) (fun hc0 => ?_)
  · -- T 0
    refine wp_seq ?_
    refine region_lex [] [(6, Pr.ex (Value.bool (true)))] 1 hN_3 hD_3 (by kernel_rfl) (by kernel_rfl) ?_ ?_
    · refine Asks.cons ?_ (Asks.zero _)
      · refine Ask.plain rfl rfl ?_
        intro aq wq hNq hO hR hT
        exact does_assign (V := Value.bool (true)) rfl ⟨Ext.refl _, rfl⟩
    intro a4 wd4 hN_4 hD_4 hO hR hA hU
    obtain ⟨t6, _⟩ := hA
    have hE_4 := hE_3.trans hR
    have hbb3_4 := hbb3_3.ext' hR
    have hsx1_4 := hsx1_3.ext' hR
    have s6_4 : get a4 6 = Value.bool (true) := t6
    clear hE_3 hN_3 hD_3 s1_3 s2_3 s3_3 s31_3 hbb3_3 hsx1_3
    refine tail_nil ?_
    refine wp_ret ?_
    refine res_one (V := Value.bool (true)) rfl hD_4 s6_4 ?_
    exact ⟨rfl, hE_4⟩
  obtain ⟨⟨hf1, hlen⟩, hss⟩ : ((few items 20 300 && right items) = true ∧ ¬ items.length = 0) ∧ ((s.length : Nat) : Int) ≤ 300 := by simpa using hc0
  have hf := Bool.and_eq_true_iff.1 hf1
  have hs := few_hs hf.1 (by decide)
  have hn := few_hn hf.1 (by decide)
  have hmost := (few_spec hf.1).1
  have hlt : which.toNat % items.length < items.length := Nat.mod_lt _ (by omega)
  obtain ⟨y, hy⟩ := get_of_lt (l := items) (k := which.toNat % items.length) hlt
  have hs2 : ∀ x ∈ items.set (which.toNat % items.length) s, x.length ≤ 65536 := fun x hx => (List.mem_or_eq_of_mem_set hx).elim (hs x) (fun e => by rw [e]; omega)
  have hn2 : (items.set (which.toNat % items.length) s).length ≤ 100000 := by rw [List.length_set]; omega
  refine wp_skip ?_
  refine wp_seq ?_
  refine region_lex [7] [(32, Pr.ex (Value.agg #[x1])), (33, Pr.ex (Value.agg #[i64 ((items.length : Nat) : Int), w32 (root (items.map of)).a, w32 (root (items.map of)).b, w32 (root (items.map of)).c, w32 (root (items.map of)).d])), (7, Pr.box' wd3.heap.size 29 [i64 ((0 : Nat) : Int), w32 (Dg.zero).a, w32 (Dg.zero).b, w32 (Dg.zero).c, w32 (Dg.zero).d])] 3 hN_3 hD_3 (by kernel_rfl) (by kernel_rfl) ?_ ?_
  · refine Asks.cons ?_ (Asks.cons ?_ (Asks.cons ?_ (Asks.zero _)))
    · refine Ask.plain rfl rfl ?_
      intro aq wq hNq hO hR hT
      exact does_loadD (o := 0) (n := 1) (mid := [x1]) ((hO 3 rfl).trans s3_3) (hbb3_3.ext' hR) rfl rfl (Nat.le_of_ble_eq_true rfl) row_24 rfl ⟨Ext.refl _, rfl⟩
    · refine Ask.plain rfl rfl ?_
      intro aq wq hNq hO hR hT
      exact does_ret (vs := #[Value.agg #[x1]]) call_18 (args1 (hT 32 rfl rfl)) rfl ((shead (items) (x1) wq (hL.ext (hE_3.trans hR)) ((hsx1_3.ext' hR).wide (Nat.zero_le _) (.inl rfl)) hs hn).mono fun v w2 h => ⟨h.2, h.1⟩)
    · refine Ask.fresh rfl rfl ?_
      intro aq wq hNq hO hR hT
      exact does_alloc zero_29 (fun b w2 he hlo hb => ⟨he, ⟨b, rfl, Nat.le_trans hR.size' hlo, hb⟩, ⟨b, rfl, hlo, hb.lt⟩⟩)
  intro a5 wd5 hN_5 hD_5 hO hR hA hU
  obtain ⟨_, t33, t7, _⟩ := hA
  have hE_5 := hE_3.trans hR
  have s1_5 := (hO 1 rfl).trans s1_3
  have s2_5 := (hO 2 rfl).trans s2_3
  have s3_5 := (hO 3 rfl).trans s3_3
  have hbb3_5 := hbb3_3.ext' hR
  have hsx1_5 := hsx1_3.ext' hR
  have s33_5 : get a5 33 = Value.agg #[i64 ((items.length : Nat) : Int), w32 (root (items.map of)).a, w32 (root (items.map of)).b, w32 (root (items.map of)).c, w32 (root (items.map of)).d] := t33
  obtain ⟨b7, s7_5, lo_b7, hbb7_5⟩ := t7
  have ne_b3_b7 : b3 ≠ b7 := fun e => Nat.lt_irrefl _ (Nat.lt_of_lt_of_le hbb3_3.lt (e ▸ lo_b7))
  have nb_x1_b7 := SlT.old hsx1_3 lo_b7
  have fr_b7 : w0.heap.size ≤ b7 := Nat.le_trans hE_3.size' lo_b7
  clear hE_3 hN_3 hD_3 s1_3 s2_3 s3_3 s31_3 hbb3_3 hsx1_3
  refine tail_none rfl rfl (does_storeD (o := 0) (n := 5) (cs' := [i64 ((items.length : Nat) : Int), w32 (root (items.map of)).a, w32 (root (items.map of)).b, w32 (root (items.map of)).c, w32 (root (items.map of)).d]) (V := Value.agg #[i64 ((items.length : Nat) : Int), w32 (root (items.map of)).a, w32 (root (items.map of)).b, w32 (root (items.map of)).c, w32 (root (items.map of)).d]) s7_5 s33_5 hbb7_5 (Nat.le_of_ble_eq_true rfl) rfl siz_29 rfl rfl (fun wd6 hX hz hbb7_6 => ?_))
  have hE_6 := hE_5.since hX (fun k e => e ▸ fr_b7)
  have hbb3_6 := hbb3_5.ext hX ne_b3_b7
  have hsx1_6 := SlT.over hsx1_5 hX nb_x1_b7
  clear hX hz hE_5 hbb3_5 hbb7_5 hsx1_5
  refine tail_nil ?_
  refine wp_seq ?_
  refine region_lex [] [(34, Pr.ex (w8 (which))), (35, Pr.ex (i64 (((which).toNat : Nat) : Int))), (36, Pr.ex (Value.pointer (some ⟨b3, 0, none⟩))), (37, Pr.ex (x1)), (38, Pr.ex (i64 ((items.length : Nat) : Int))), (39, Pr.ex (i64 ((((which).toNat) % items.length : Nat) : Int))), (8, Pr.ex (i64 ((((which).toNat) % items.length : Nat) : Int)))] 7 hN_5 hD_5 (by kernel_rfl) (by kernel_rfl) ?_ ?_
  · refine Asks.cons ?_ (Asks.cons ?_ (Asks.cons ?_ (Asks.cons ?_ (Asks.cons ?_ (Asks.cons ?_ (Asks.cons ?_ (Asks.zero _)))))))
    · refine Ask.plain rfl rfl ?_
      intro aq wq hNq hO hR hT
      exact does_move (V := w8 (which)) ((hO 1 rfl).trans s1_5) ⟨Ext.refl _, rfl⟩
    · refine Ask.plain rfl rfl ?_
      intro aq wq hNq hO hR hT
      exact does_conv ⟨_, Tryd.underlying5⟩ Tryd.underlying3 (hT 34 rfl rfl) (conv_w_i8 _) ⟨Ext.refl _, rfl⟩
    · refine Ask.plain rfl rfl ?_
      intro aq wq hNq hO hR hT
      exact does_field (o' := 0) fld_24_0 ((hO 3 rfl).trans s3_5) rfl ⟨Ext.refl _, rfl⟩
    · refine Ask.plain rfl rfl ?_
      intro aq wq hNq hO hR hT
      exact does_loadD1 (o := 0) (V := x1) (hT 36 rfl rfl) (hbb3_6.ext' hR) rfl one_22 ⟨Ext.refl _, rfl⟩
    · refine Ask.plain rfl rfl ?_
      intro aq wq hNq hO hR hT
      exact does_len (T := Str) (xs := items) sli_22 (SlT.at (hT 37 rfl rfl) (hsx1_6.ext' hR)) ⟨Ext.refl _, rfl⟩
    · refine Ask.plain rfl rfl ?_
      intro aq wq hNq hO hR hT
      exact does_rem (k := .i64) (a := (((which).toNat : Nat) : Int)) (b := ((items.length : Nat) : Int)) (r := ((((which).toNat) % items.length : Nat) : Int)) (hT 35 rfl rfl) (hT 38 rfl rfl) (by omega) (by omega) (by omega) ⟨Ext.refl _, rfl⟩
    · refine Ask.plain rfl rfl ?_
      intro aq wq hNq hO hR hT
      exact does_assign (V := i64 ((((which).toNat) % items.length : Nat) : Int)) (hT 39 rfl rfl) ⟨Ext.refl _, rfl⟩
  intro a7 wd7 hN_7 hD_7 hO hR hA hU
  obtain ⟨_, _, _, _, _, _, t8, _⟩ := hA
  have hE_7 := hE_6.trans hR
  have s2_7 := (hO 2 rfl).trans s2_5
  have s3_7 := (hO 3 rfl).trans s3_5
  have s7_7 := (hO 7 rfl).trans s7_5
  have hbb3_7 := hbb3_6.ext' hR
  have hbb7_7 := hbb7_6.ext' hR
  have hsx1_7 := hsx1_6.ext' hR
  have s8_7 : get a7 8 = i64 ((((which).toNat) % items.length : Nat) : Int) := t8
  clear hE_6 hN_5 hD_5 s1_5 s2_5 s3_5 s7_5 s33_5 hbb3_6 hbb7_6 hsx1_6
  refine tail_nil ?_
  refine wp_seq ?_
  refine region_lex [] [(40, Pr.own' Str wd7.heap.size 9 ([])), (41, Pr.ex (Value.pointer (some ⟨b3, 0, none⟩))), (42, Pr.ex (x1))] 3 hN_7 hD_7 (by kernel_rfl) (by kernel_rfl) ?_ ?_
  · refine Asks.cons ?_ (Asks.cons ?_ (Asks.cons ?_ (Asks.zero _)))
    · refine Ask.plain rfl rfl ?_
      intro aq wq hNq hO hR hT
      exact does_slice0 (T := Str) app_22 rfl (fun v w2 he _ ho => ⟨he, OwnT.base ho hR.size'⟩)
    · refine Ask.plain rfl rfl ?_
      intro aq wq hNq hO hR hT
      exact does_field (o' := 0) fld_24_0 ((hO 3 rfl).trans s3_7) rfl ⟨Ext.refl _, rfl⟩
    · refine Ask.plain rfl rfl ?_
      intro aq wq hNq hO hR hT
      exact does_loadD1 (o := 0) (V := x1) (hT 41 rfl rfl) (hbb3_7.ext' hR) rfl one_22 ⟨Ext.refl _, rfl⟩
  intro a8 wd8 hN_8 hD_8 hO hR hA hU
  obtain ⟨t40, _, t42, _⟩ := hA
  have hE_8 := hE_7.trans hR
  have s2_8 := (hO 2 rfl).trans s2_7
  have s3_8 := (hO 3 rfl).trans s3_7
  have s7_8 := (hO 7 rfl).trans s7_7
  have s8_8 := (hO 8 rfl).trans s8_7
  have hbb3_8 := hbb3_7.ext' hR
  have hbb7_8 := hbb7_7.ext' hR
  have hsx1_8 := hsx1_7.ext' hR
  obtain ⟨x40, s40_8⟩ : ∃ x, get a8 40 = x := ⟨_, rfl⟩
  replace t40 : OwnT Str wd7.heap.size 9 ([]) x40 wd8 := by rw [← s40_8]; exact t40
  have nbo_x40_b3 : x40.ownBlock ≠ some b3 := fun e => Nat.lt_irrefl _ (Nat.lt_of_lt_of_le hbb3_7.lt (OwnT.block_lt t40 e).1)
  have nbo_x40_b7 : x40.ownBlock ≠ some b7 := fun e => Nat.lt_irrefl _ (Nat.lt_of_lt_of_le hbb7_7.lt (OwnT.block_lt t40 e).1)
  have hsx40_8 := t40.sl.wide (Nat.zero_le _) (.inl rfl)
  have hox40_8 := OwnT.base t40 hE_7.size'
  have s42_8 : get a8 42 = x1 := t42
  clear hE_7 hN_7 hD_7 s2_7 s3_7 s7_7 s8_7 hbb3_7 hbb7_7 hsx1_7
  refine tail_put rfl rfl hN_8 hD_8 (by decide) (does_appendA (T := Str) (base := w0.heap.size) (xs := []) (ys := items) (v := x40) app_22 s40_8 hox40_8 (SlT.at s42_8 hsx1_8)  (by simp only [List.length_nil]; omega) (by simp only [List.length_nil]; omega) hE_8.size' (fun x43 wd9 hX hox43_9 hk a9 hN_9 hD_9 hv hO => ?_))
  have hE_9 := hE_8.since hX (fun b hb => Nat.le_trans (Nat.le_refl _) (OwnT.block_lt hox40_8 hb).1)
  have hbb3_9 := hbb3_8.ext hX nbo_x40_b3
  have nbo_x43_b3 : x43.ownBlock ≠ some b3 := fun e => (hk _ e).elim nbo_x40_b3 (fun h => Nat.lt_irrefl _ (Nat.lt_of_lt_of_le hbb3_8.lt h))
  have hbb7_9 := hbb7_8.ext hX nbo_x40_b7
  have nbo_x43_b7 : x43.ownBlock ≠ some b7 := fun e => (hk _ e).elim nbo_x40_b7 (fun h => Nat.lt_irrefl _ (Nat.lt_of_lt_of_le hbb7_8.lt h))
  have hsx1_9 := SlT.overOwn hsx1_8 hox40_8 hX
  have hsx43_9 := hox43_9.sl.wide (Nat.zero_le _) (.inl rfl)
  rw [List.nil_append] at hox43_9 hsx43_9
  have s43_9 := hv
  have s2_9 := (hO 2 rfl).trans s2_8
  have s3_9 := (hO 3 rfl).trans s3_8
  have s7_9 := (hO 7 rfl).trans s7_8
  have s8_9 := (hO 8 rfl).trans s8_8
  clear hO hv hX hk hN_8 hD_8 hE_8 hbb3_8 hbb7_8 hsx1_8 s2_8 s3_8 s7_8 s8_8 s40_8 s42_8
  refine tail_put rfl rfl hN_9 hD_9 (by decide) (does_build (vs := #[(0, x43)]) (V := Value.agg #[x43]) (parts1 s43_9) (by obtain ⟨sa0, sc0, hv0, _⟩ := hsx43_9; rw [hv0]; kernel_rfl) (fun a10 hN_10 hD_10 hv hO => ?_))
  have s44_10 := hv
  have s2_10 := (hO 2 rfl).trans s2_9
  have s3_10 := (hO 3 rfl).trans s3_9
  have s7_10 := (hO 7 rfl).trans s7_9
  have s8_10 := (hO 8 rfl).trans s8_9
  clear hO hv hN_9 hD_9 s2_9 s3_9 s7_9 s8_9 s43_9
  refine tail_put rfl rfl hN_10 hD_10 (by decide) (does_alloc zero_24 (fun b9 wd11 he lo_b9 hbb9_11 => fun a11 hN_11 hD_11 hv hO => ?_))
  have s9_11 := hv
  have hE_11 := hE_9.trans he
  have hbb3_11 := hbb3_9.ext' he
  have hbb7_11 := hbb7_9.ext' he
  have hsx1_11 := hsx1_9.ext' he
  have hsx43_11 := hsx43_9.ext' he
  have hox43_11 := hox43_9.ext' he
  have fr_b9 : w0.heap.size ≤ b9 := Nat.le_trans hE_9.size' lo_b9
  have ne_b3_b9 : b3 ≠ b9 := fun e => Nat.lt_irrefl _ (Nat.lt_of_lt_of_le hbb3_9.lt (e ▸ lo_b9))
  have ne_b7_b9 : b7 ≠ b9 := fun e => Nat.lt_irrefl _ (Nat.lt_of_lt_of_le hbb7_9.lt (e ▸ lo_b9))
  have nb_x1_b9 := SlT.old hsx1_9 lo_b9
  have nb_x43_b9 := SlT.old hsx43_9 lo_b9
  have nbo_x43_b9 : x43.ownBlock ≠ some b9 := fun e => Nat.lt_irrefl _ (Nat.lt_of_lt_of_le (OwnT.block_lt hox43_9 e).2 lo_b9)
  have s2_11 := (hO 2 rfl).trans s2_10
  have s3_11 := (hO 3 rfl).trans s3_10
  have s7_11 := (hO 7 rfl).trans s7_10
  have s8_11 := (hO 8 rfl).trans s8_10
  have s44_11 := (hO 44 rfl).trans s44_10
  clear hO hv hN_10 hD_10 hE_9 hbb3_9 hbb7_9 hsx1_9 hsx43_9 hox43_9 s2_10 s3_10 s7_10 s8_10 s44_10
  refine tail_none rfl rfl (does_storeD (o := 0) (n := 1) (cs' := [x43]) (V := Value.agg #[x43]) s9_11 s44_11 hbb9_11 (Nat.le_of_ble_eq_true rfl) rfl siz_24 (one_cons (SlT.one hsx43_11) one_nil) rfl (fun wd12 hX hz hbb9_12 => ?_))
  have hE_12 := hE_11.since hX (fun k e => e ▸ fr_b9)
  have hbb3_12 := hbb3_11.ext hX ne_b3_b9
  have hbb7_12 := hbb7_11.ext hX ne_b7_b9
  have hsx1_12 := SlT.over hsx1_11 hX nb_x1_b9
  have hsx43_12 := SlT.over hsx43_11 hX nb_x43_b9
  have hox43_12 := OwnT.ext hox43_11 hX (fun k hk e => nbo_x43_b9 (e ▸ hk))
  clear hX hz hE_11 hbb3_11 hbb7_11 hbb9_11 hsx1_11 hsx43_11 hox43_11
  refine tail_nil ?_
  refine wp_seq ?_
  refine region_lex [] [(45, Pr.ex (Value.pointer (some ⟨b9, 0, none⟩))), (46, Pr.ex (x43)), (47, Pr.ex (i64 ((((which).toNat) % items.length : Nat) : Int))), (48, Pr.ex (str (s))), (49, Pr.ex (elAddr x43 ((((which).toNat) % items.length)) 1))] 5 hN_11 hD_11 (by kernel_rfl) (by kernel_rfl) ?_ ?_
  · refine Asks.cons ?_ (Asks.cons ?_ (Asks.cons ?_ (Asks.cons ?_ (Asks.cons ?_ (Asks.zero _)))))
    · refine Ask.plain rfl rfl ?_
      intro aq wq hNq hO hR hT
      exact does_field (o' := 0) fld_24_0 ((hO 9 rfl).trans s9_11) rfl ⟨Ext.refl _, rfl⟩
    · refine Ask.plain rfl rfl ?_
      intro aq wq hNq hO hR hT
      exact does_loadD1 (o := 0) (V := x43) (hT 45 rfl rfl) (hbb9_12.ext' hR) rfl one_22 ⟨Ext.refl _, rfl⟩
    · refine Ask.plain rfl rfl ?_
      intro aq wq hNq hO hR hT
      exact does_move (V := i64 ((((which).toNat) % items.length : Nat) : Int)) ((hO 8 rfl).trans s8_11) ⟨Ext.refl _, rfl⟩
    · refine Ask.plain rfl rfl ?_
      intro aq wq hNq hO hR hT
      exact does_move (V := str (s)) ((hO 2 rfl).trans s2_11) ⟨Ext.refl _, rfl⟩
    · refine Ask.plain rfl rfl ?_
      intro aq wq hNq hO hR hT
      exact does_elAddr (T := Str) (base := w0.heap.size) (xs := items) (i := ((((which).toNat) % items.length : Nat) : Int)) sli_22 rfl (hT 46 rfl rfl) (hox43_12.ext' hR) (hT 47 rfl rfl) (by omega) (by omega) ⟨Ext.refl _, rfl⟩
  intro a13 wd13 hN_13 hD_13 hO hR hA hU
  obtain ⟨_, _, _, t48, t49, _⟩ := hA
  have hE_13 := hE_12.trans hR
  have s2_13 := (hO 2 rfl).trans s2_11
  have s3_13 := (hO 3 rfl).trans s3_11
  have s7_13 := (hO 7 rfl).trans s7_11
  have s8_13 := (hO 8 rfl).trans s8_11
  have s9_13 := (hO 9 rfl).trans s9_11
  have hbb3_13 := hbb3_12.ext' hR
  have hbb7_13 := hbb7_12.ext' hR
  have hbb9_13 := hbb9_12.ext' hR
  have hsx1_13 := hsx1_12.ext' hR
  have hsx43_13 := hsx43_12.ext' hR
  have hox43_13 := hox43_12.ext' hR
  have s48_13 : get a13 48 = str (s) := t48
  have s49_13 : get a13 49 = elAddr x43 ((((which).toNat) % items.length)) 1 := t49
  clear hE_12 hN_11 hD_11 s2_11 s3_11 s7_11 s8_11 s9_11 s44_11 hbb3_12 hbb7_12 hbb9_12 hsx1_12 hsx43_12 hox43_12
  refine tail_none rfl rfl (does_storeEl (T := Str) (X := s) (V := str (s)) (v := x43) (k := (((which).toNat) % items.length)) rfl s49_13 s48_13 rfl hox43_13 (by omega) siz_9 (fun wd14 hX hox43_14 => ?_))
  have hE_14 := hE_13.since hX (fun b hb => Nat.le_trans (Nat.le_refl _) (OwnT.block_lt hox43_13 hb).1)
  have hbb3_14 := hbb3_13.ext hX nbo_x43_b3
  have hbb7_14 := hbb7_13.ext hX nbo_x43_b7
  have hbb9_14 := hbb9_13.ext hX nbo_x43_b9
  have hsx1_14 := SlT.overOwn hsx1_13 hox43_13 hX
  have hsx43_14 := hox43_14.sl.wide (Nat.zero_le _) (.inl rfl)
  clear hX hE_13 hox43_13 hbb3_13 hbb7_13 hbb9_13 hsx1_13
  refine tail_nil ?_
  refine wp_seq ?_
  refine wp_seq ?_
  refine region_lex [] [(50, Pr.ex (str (s))), (51, Pr.ex (Value.pointer (some ⟨b3, 0, none⟩))), (52, Pr.ex (x1)), (53, Pr.ex (i64 ((((which).toNat) % items.length : Nat) : Int))), (54, Pr.pt' 0 (w0.heap.size + 1) [str (y)]), (55, Pr.ex (str (y))), (56, Pr.ex (Value.bool (decide (s = y)))), (57, Pr.ex (Value.bool (decide (s = y)))), (58, Pr.ifb (!(decide (s = y))) (Pr.ex (Value.agg #[x43]))), (59, Pr.ifb (!(decide (s = y))) (Pr.ex (Value.bool (right (items.set ((((which).toNat) % items.length)) s))))), (60, Pr.ifb (!(decide (s = y))) (Pr.ex (Value.bool (!(right (items.set ((((which).toNat) % items.length)) s)))))), (61, Pr.ex (Value.bool ((decide (s = y)) || (!(right (items.set ((((which).toNat) % items.length)) s))))))] 12 hN_13 hD_13 (by kernel_rfl) (by kernel_rfl) ?_ ?_
  · refine Asks.cons ?_ (Asks.cons ?_ (Asks.cons ?_ (Asks.cons ?_ (Asks.cons ?_ (Asks.cons ?_ (Asks.cons ?_ (Asks.cons ?_ (Asks.cons ?_ (Asks.cons ?_ (Asks.cons ?_ (Asks.cons ?_ (Asks.zero _))))))))))))
    · refine Ask.plain rfl rfl ?_
      intro aq wq hNq hO hR hT
      exact does_move (V := str (s)) ((hO 2 rfl).trans s2_13) ⟨Ext.refl _, rfl⟩
    · refine Ask.plain rfl rfl ?_
      intro aq wq hNq hO hR hT
      exact does_field (o' := 0) fld_24_0 ((hO 3 rfl).trans s3_13) rfl ⟨Ext.refl _, rfl⟩
    · refine Ask.plain rfl rfl ?_
      intro aq wq hNq hO hR hT
      exact does_loadD1 (o := 0) (V := x1) (hT 51 rfl rfl) (hbb3_14.ext' hR) rfl one_22 ⟨Ext.refl _, rfl⟩
    · refine Ask.plain rfl rfl ?_
      intro aq wq hNq hO hR hT
      exact does_move (V := i64 ((((which).toNat) % items.length : Nat) : Int)) ((hO 8 rfl).trans s8_13) ⟨Ext.refl _, rfl⟩
    · refine Ask.plain rfl rfl ?_
      intro aq wq hNq hO hR hT
      exact does_indexSl (T := Str) (xs := items) (i := ((((which).toNat) % items.length : Nat) : Int)) (X := y) sli_22 rfl (SlT.at (hT 52 rfl rfl) (hsx1_14.ext' hR)) (hT 53 rfl rfl) (by omega) hy (fun v h => ⟨Ext.refl _, h⟩)
    · refine Ask.plain rfl rfl ?_
      intro aq wq hNq hO hR hT
      exact does_loadP1 (V := str (y)) (hT 54 rfl rfl) one_9 ⟨Ext.refl _, rfl⟩
    · refine Ask.plain rfl rfl ?_
      intro aq wq hNq hO hR hT
      exact does_eqS (a := s) (b := y) Tryd.underlying9 (hT 50 rfl rfl) (hT 55 rfl rfl) ⟨Ext.refl _, rfl⟩
    · refine Ask.plain rfl rfl ?_
      intro aq wq hNq hO hR hT
      exact does_move (V := Value.bool (decide (s = y))) (hT 56 rfl rfl) ⟨Ext.refl _, rfl⟩
    · refine Ask.guarded (B := decide (s = y)) (want := false) (t := 57) rfl rfl rfl rfl (by decide) (fun aq wq hO hR hT => hT 57 rfl rfl) (fun hG aq wq hNq hO hR hT => ?_) (fun hno _ hc => absurd (bn hc) hno)
      replace hG := nb hG
      exact does_loadD (o := 0) (n := 1) (mid := [x43]) ((hO 9 rfl).trans s9_13) (hbb9_14.ext' hR) rfl rfl (Nat.le_of_ble_eq_true rfl) row_24 rfl ⟨Ext.refl _, fun _ => rfl⟩
    · refine Ask.guarded (B := decide (s = y)) (want := false) (t := 57) rfl rfl rfl rfl (by decide) (fun aq wq hO hR hT => hT 57 rfl rfl) (fun hG aq wq hNq hO hR hT => ?_) (fun hno _ hc => absurd (bn hc) hno)
      replace hG := nb hG
      exact does_ret (vs := #[Value.agg #[x43]]) call_20 (args1 (hT 58 rfl rfl (hG))) rfl ((right_ (items.set ((((which).toNat) % items.length)) s) (x43) wq ((hsx43_14.ext' hR).wide (Nat.zero_le _) (.inl rfl)) hs2 hn2).mono fun v w2 h => ⟨h.2, fun _ => h.1⟩)
    · refine Ask.guarded (B := decide (s = y)) (want := false) (t := 57) rfl rfl rfl rfl (by decide) (fun aq wq hO hR hT => hT 57 rfl rfl) (fun hG aq wq hNq hO hR hT => ?_) (fun hno _ hc => absurd (bn hc) hno)
      replace hG := nb hG
      exact does_not (B := right (items.set ((((which).toNat) % items.length)) s)) (hT 59 rfl rfl (hG)) ⟨Ext.refl _, fun _ => rfl⟩
    · refine Ask.plain rfl rfl ?_
      intro aq wq hNq hO hR hT
      exact does_or (B := decide (s = y)) (X := !(right (items.set ((((which).toNat) % items.length)) s))) (hT 57 rfl rfl) rfl (fun hB => (hT 60 rfl rfl (nb hB))) ⟨Ext.refl _, rfl⟩
  intro a15 wd15 hN_15 hD_15 hO hR hA hU
  obtain ⟨_, _, _, _, _, _, _, _, _, _, _, t61, _⟩ := hA
  have hE_15 := hE_14.trans hR
  have s3_15 := (hO 3 rfl).trans s3_13
  have s7_15 := (hO 7 rfl).trans s7_13
  have s9_15 := (hO 9 rfl).trans s9_13
  have hbb3_15 := hbb3_14.ext' hR
  have hbb7_15 := hbb7_14.ext' hR
  have hbb9_15 := hbb9_14.ext' hR
  have hsx1_15 := hsx1_14.ext' hR
  have hsx43_15 := hsx43_14.ext' hR
  have hox43_15 := hox43_14.ext' hR
  have s61_15 : get a15 61 = Value.bool ((decide (s = y)) || (!(right (items.set ((((which).toNat) % items.length)) s)))) := t61
  clear hE_14 hN_13 hD_13 s2_13 s3_13 s7_13 s8_13 s9_13 s48_13 s49_13 hbb3_14 hbb7_14 hbb9_14 hsx1_14 hsx43_14 hox43_14
  refine tail_nil ?_
  refine wp_if (B := (decide (s = y)) || (!(right (items.set ((((which).toNat) % items.length)) s)))) s61_15 (fun hc1 => ?_) (fun hc1 => ?_)
  · -- T 1
    refine wp_seq ?_
    refine region_lex [] [(6, Pr.ex (Value.bool (true)))] 1 hN_15 hD_15 (by kernel_rfl) (by kernel_rfl) ?_ ?_
    · refine Asks.cons ?_ (Asks.zero _)
      · refine Ask.plain rfl rfl ?_
        intro aq wq hNq hO hR hT
        exact does_assign (V := Value.bool (true)) rfl ⟨Ext.refl _, rfl⟩
    intro a16 wd16 hN_16 hD_16 hO hR hA hU
    obtain ⟨t6, _⟩ := hA
    have hE_16 := hE_15.trans hR
    have hbb3_16 := hbb3_15.ext' hR
    have hbb7_16 := hbb7_15.ext' hR
    have hbb9_16 := hbb9_15.ext' hR
    have hsx1_16 := hsx1_15.ext' hR
    have hsx43_16 := hsx43_15.ext' hR
    have hox43_16 := hox43_15.ext' hR
    have s6_16 : get a16 6 = Value.bool (true) := t6
    clear hE_15 hN_15 hD_15 s3_15 s7_15 s9_15 s61_15 hbb3_15 hbb7_15 hbb9_15 hsx1_15 hsx43_15 hox43_15
    refine tail_nil ?_
    refine wp_ret ?_
    refine res_one (V := Value.bool (true)) rfl hD_16 s6_16 ?_
    exact ⟨rfl, hE_16⟩
  refine wp_skip ?_
  refine wp_seq ?_
  refine region_lex [] [(62, Pr.ex (Value.agg #[x43])), (63, Pr.ex (Value.agg #[i64 ((items.length : Nat) : Int), w32 (root (items.map of)).a, w32 (root (items.map of)).b, w32 (root (items.map of)).c, w32 (root (items.map of)).d])), (64, Pr.ex (i64 ((lost (items.set ((((which).toNat) % items.length)) s) (⟨((items.length : Nat) : Int), root (items.map of)⟩ : Head) : Nat) : Int))), (10, Pr.ex (i64 ((lost (items.set ((((which).toNat) % items.length)) s) (⟨((items.length : Nat) : Int), root (items.map of)⟩ : Head) : Nat) : Int)))] 4 hN_15 hD_15 (by kernel_rfl) (by kernel_rfl) ?_ ?_
  · refine Asks.cons ?_ (Asks.cons ?_ (Asks.cons ?_ (Asks.cons ?_ (Asks.zero _))))
    · refine Ask.plain rfl rfl ?_
      intro aq wq hNq hO hR hT
      exact does_loadD (o := 0) (n := 1) (mid := [x43]) ((hO 9 rfl).trans s9_15) (hbb9_15.ext' hR) rfl rfl (Nat.le_of_ble_eq_true rfl) row_24 rfl ⟨Ext.refl _, rfl⟩
    · refine Ask.plain rfl rfl ?_
      intro aq wq hNq hO hR hT
      exact does_loadD (o := 0) (n := 5) (mid := [i64 ((items.length : Nat) : Int), w32 (root (items.map of)).a, w32 (root (items.map of)).b, w32 (root (items.map of)).c, w32 (root (items.map of)).d]) ((hO 7 rfl).trans s7_15) (hbb7_15.ext' hR) rfl rfl (Nat.le_of_ble_eq_true rfl) row_29 rfl ⟨Ext.refl _, rfl⟩
    · refine Ask.plain rfl rfl ?_
      intro aq wq hNq hO hR hT
      exact does_ret (vs := #[Value.agg #[x43], Value.agg #[i64 ((items.length : Nat) : Int), w32 (root (items.map of)).a, w32 (root (items.map of)).b, w32 (root (items.map of)).c, w32 (root (items.map of)).d]]) call_14 (args2 (hT 62 rfl rfl) (hT 63 rfl rfl)) rfl ((lost_ (items.set ((((which).toNat) % items.length)) s) (x43) (⟨((items.length : Nat) : Int), root (items.map of)⟩ : Head) wq (hL.ext (hE_15.trans hR)) ((hsx43_15.ext' hR).wide (Nat.zero_le _) (.inl rfl)) hs2 hn2).mono fun v w2 h => ⟨h.2, h.1⟩)
    · refine Ask.plain rfl rfl ?_
      intro aq wq hNq hO hR hT
      exact does_assign (V := i64 ((lost (items.set ((((which).toNat) % items.length)) s) (⟨((items.length : Nat) : Int), root (items.map of)⟩ : Head) : Nat) : Int)) (hT 64 rfl rfl) ⟨Ext.refl _, rfl⟩
  intro a17 wd17 hN_17 hD_17 hO hR hA hU
  obtain ⟨_, _, _, t10, _⟩ := hA
  have hE_17 := hE_15.trans hR
  have s3_17 := (hO 3 rfl).trans s3_15
  have s9_17 := (hO 9 rfl).trans s9_15
  have hbb3_17 := hbb3_15.ext' hR
  have hbb7_17 := hbb7_15.ext' hR
  have hbb9_17 := hbb9_15.ext' hR
  have hsx1_17 := hsx1_15.ext' hR
  have hsx43_17 := hsx43_15.ext' hR
  have hox43_17 := hox43_15.ext' hR
  have s10_17 : get a17 10 = i64 ((lost (items.set ((((which).toNat) % items.length)) s) (⟨((items.length : Nat) : Int), root (items.map of)⟩ : Head) : Nat) : Int) := t10
  clear hE_15 hN_15 hD_15 s3_15 s7_15 s9_15 s61_15 hbb3_15 hbb7_15 hbb9_15 hsx1_15 hsx43_15 hox43_15
  refine tail_nil ?_
  refine wp_seq ?_
  refine wp_seq ?_
  refine region_lex [] [(65, Pr.ex (i64 ((lost (items.set ((((which).toNat) % items.length)) s) (⟨((items.length : Nat) : Int), root (items.map of)⟩ : Head) : Nat) : Int))), (66, Pr.ex (Value.bool (decide (((lost (items.set ((((which).toNat) % items.length)) s) (⟨((items.length : Nat) : Int), root (items.map of)⟩ : Head) : Nat) : Int) = ((8 : Nat) : Int)))))] 2 hN_17 hD_17 (by kernel_rfl) (by kernel_rfl) ?_ ?_
  · refine Asks.cons ?_ (Asks.cons ?_ (Asks.zero _))
    · refine Ask.plain rfl rfl ?_
      intro aq wq hNq hO hR hT
      exact does_move (V := i64 ((lost (items.set ((((which).toNat) % items.length)) s) (⟨((items.length : Nat) : Int), root (items.map of)⟩ : Head) : Nat) : Int)) ((hO 10 rfl).trans s10_17) ⟨Ext.refl _, rfl⟩
    · refine Ask.plain rfl rfl ?_
      intro aq wq hNq hO hR hT
      exact does_eql (a := ((lost (items.set ((((which).toNat) % items.length)) s) (⟨((items.length : Nat) : Int), root (items.map of)⟩ : Head) : Nat) : Int)) (b := ((8 : Nat) : Int)) (hT 65 rfl rfl) rfl ⟨Ext.refl _, rfl⟩
  intro a18 wd18 hN_18 hD_18 hO hR hA hU
  obtain ⟨_, t66, _⟩ := hA
  have hE_18 := hE_17.trans hR
  have s3_18 := (hO 3 rfl).trans s3_17
  have s9_18 := (hO 9 rfl).trans s9_17
  have s10_18 := (hO 10 rfl).trans s10_17
  have hbb3_18 := hbb3_17.ext' hR
  have hbb7_18 := hbb7_17.ext' hR
  have hbb9_18 := hbb9_17.ext' hR
  have hsx1_18 := hsx1_17.ext' hR
  have hsx43_18 := hsx43_17.ext' hR
  have hox43_18 := hox43_17.ext' hR
  have s66_18 : get a18 66 = Value.bool (decide (((lost (items.set ((((which).toNat) % items.length)) s) (⟨((items.length : Nat) : Int), root (items.map of)⟩ : Head) : Nat) : Int) = ((8 : Nat) : Int))) := t66
  clear hE_17 hN_17 hD_17 s3_17 s9_17 s10_17 hbb3_17 hbb7_17 hbb9_17 hsx1_17 hsx43_17 hox43_17
  refine tail_nil ?_
  refine wp_if (B := decide (((lost (items.set ((((which).toNat) % items.length)) s) (⟨((items.length : Nat) : Int), root (items.map of)⟩ : Head) : Nat) : Int) = ((8 : Nat) : Int))) s66_18 (fun hc2 => ?_) (fun hc2 => ?_)
  · -- T 2
    have hc2 := of_decide_eq_true hc2
    refine wp_seq ?_
    refine region_lex [] [(6, Pr.ex (Value.bool (true)))] 1 hN_18 hD_18 (by kernel_rfl) (by kernel_rfl) ?_ ?_
    · refine Asks.cons ?_ (Asks.zero _)
      · refine Ask.plain rfl rfl ?_
        intro aq wq hNq hO hR hT
        exact does_assign (V := Value.bool (true)) rfl ⟨Ext.refl _, rfl⟩
    intro a19 wd19 hN_19 hD_19 hO hR hA hU
    obtain ⟨t6, _⟩ := hA
    have hE_19 := hE_18.trans hR
    have hbb3_19 := hbb3_18.ext' hR
    have hbb7_19 := hbb7_18.ext' hR
    have hbb9_19 := hbb9_18.ext' hR
    have hsx1_19 := hsx1_18.ext' hR
    have hsx43_19 := hsx43_18.ext' hR
    have hox43_19 := hox43_18.ext' hR
    have s6_19 : get a19 6 = Value.bool (true) := t6
    clear hE_18 hN_18 hD_18 s3_18 s9_18 s10_18 s66_18 hbb3_18 hbb7_18 hbb9_18 hsx1_18 hsx43_18 hox43_18
    refine tail_nil ?_
    refine wp_ret ?_
    refine res_one (V := Value.bool (true)) rfl hD_19 s6_19 ?_
    exact ⟨rfl, hE_19⟩
  have hc2 := of_decide_eq_false hc2
  refine wp_skip ?_
  refine wp_seq ?_
  refine region_any [] [(67, Pr.ex (Value.agg #[x1])), (68, Pr.own' DG wd18.heap.size 27 (items.map of)), (69, Pr.ex (Value.agg #[x43])), (70, Pr.own' DG wd18.heap.size 27 ((items.set ((((which).toNat) % items.length)) s).map of)), (11, Pr.own' DG wd18.heap.size 27 (items.map of)), (12, Pr.own' DG wd18.heap.size 27 ((items.set ((((which).toNat) % items.length)) s).map of))] 6 mixed hN_18 hD_18 (by kernel_rfl) (by kernel_rfl) (by kernel_rfl) ?_ ?_
  · refine Asks.cons ?_ (Asks.cons ?_ (Asks.cons ?_ (Asks.cons ?_ (Asks.cons ?_ (Asks.cons ?_ (Asks.zero _))))))
    · refine Ask.plain rfl rfl ?_
      intro aq wq hNq hO hR hT
      replace hR := (Ext.drew _).trans hR
      exact does_loadD (o := 0) (n := 1) (mid := [x1]) ((hO 3 rfl).trans s3_18) (hbb3_18.ext' hR) rfl rfl (Nat.le_of_ble_eq_true rfl) row_24 rfl ⟨Ext.refl _, rfl⟩
    · refine Ask.plain rfl rfl ?_
      intro aq wq hNq hO hR hT
      replace hR := (Ext.drew _).trans hR
      exact does_ret (vs := #[Value.agg #[x1]]) call_21 (args1 (hT 67 rfl rfl)) rfl ((digestsR (items) (x1) wq ((hsx1_18.ext' hR).wide (Nat.zero_le _) (.inl rfl)) hs hn).mono fun v w2 h => ⟨h.2, OwnT.base h.1 hR.size'⟩)
    · refine Ask.plain rfl rfl ?_
      intro aq wq hNq hO hR hT
      replace hR := (Ext.drew _).trans hR
      exact does_loadD (o := 0) (n := 1) (mid := [x43]) ((hO 9 rfl).trans s9_18) (hbb9_18.ext' hR) rfl rfl (Nat.le_of_ble_eq_true rfl) row_24 rfl ⟨Ext.refl _, rfl⟩
    · refine Ask.plain rfl rfl ?_
      intro aq wq hNq hO hR hT
      replace hR := (Ext.drew _).trans hR
      exact does_ret (vs := #[Value.agg #[x43]]) call_21 (args1 (hT 69 rfl rfl)) rfl ((digestsR (items.set ((((which).toNat) % items.length)) s) (x43) wq ((hsx43_18.ext' hR).wide (Nat.zero_le _) (.inl rfl)) hs2 hn2).mono fun v w2 h => ⟨h.2, OwnT.base h.1 hR.size'⟩)
    · refine Ask.plain rfl rfl ?_
      intro aq wq hNq hO hR hT
      replace hR := (Ext.drew _).trans hR
      exact does_assign rfl ⟨Ext.refl _, (hT 68 rfl rfl)⟩
    · refine Ask.plain rfl rfl ?_
      intro aq wq hNq hO hR hT
      replace hR := (Ext.drew _).trans hR
      exact does_assign rfl ⟨Ext.refl _, (hT 70 rfl rfl)⟩
  intro a20 wd20 hN_20 hD_20 hO hR hA hU
  obtain ⟨_, _, _, _, t11, t12, _⟩ := hA
  have hE_20 := hE_18.trans hR
  have s10_20 := (hO 10 rfl).trans s10_18
  have hbb3_20 := hbb3_18.ext' hR
  have hbb7_20 := hbb7_18.ext' hR
  have hbb9_20 := hbb9_18.ext' hR
  have hsx1_20 := hsx1_18.ext' hR
  have hsx43_20 := hsx43_18.ext' hR
  have hox43_20 := hox43_18.ext' hR
  obtain ⟨x11, s11_20⟩ : ∃ x, get a20 11 = x := ⟨_, rfl⟩
  replace t11 : OwnT DG wd18.heap.size 27 (items.map of) x11 wd20 := by rw [← s11_20]; exact t11
  have nbo_x11_b3 : x11.ownBlock ≠ some b3 := fun e => Nat.lt_irrefl _ (Nat.lt_of_lt_of_le hbb3_18.lt (OwnT.block_lt t11 e).1)
  have nbo_x11_b7 : x11.ownBlock ≠ some b7 := fun e => Nat.lt_irrefl _ (Nat.lt_of_lt_of_le hbb7_18.lt (OwnT.block_lt t11 e).1)
  have nbo_x11_b9 : x11.ownBlock ≠ some b9 := fun e => Nat.lt_irrefl _ (Nat.lt_of_lt_of_le hbb9_18.lt (OwnT.block_lt t11 e).1)
  have no_x11_x43 : ∀ k, x11.ownBlock = some k → x43.ownBlock ≠ some k := fun k e e' => Nat.lt_irrefl _ (Nat.lt_of_lt_of_le (OwnT.block_lt hox43_18 e').2 (OwnT.block_lt t11 e).1)
  have hsx11_20 := t11.sl.wide (Nat.zero_le _) (.inl rfl)
  have hox11_20 := OwnT.base t11 hE_18.size'
  obtain ⟨x12, s12_20⟩ : ∃ x, get a20 12 = x := ⟨_, rfl⟩
  replace t12 : OwnT DG wd18.heap.size 27 ((items.set ((((which).toNat) % items.length)) s).map of) x12 wd20 := by rw [← s12_20]; exact t12
  have nbo_x12_b3 : x12.ownBlock ≠ some b3 := fun e => Nat.lt_irrefl _ (Nat.lt_of_lt_of_le hbb3_18.lt (OwnT.block_lt t12 e).1)
  have nbo_x12_b7 : x12.ownBlock ≠ some b7 := fun e => Nat.lt_irrefl _ (Nat.lt_of_lt_of_le hbb7_18.lt (OwnT.block_lt t12 e).1)
  have nbo_x12_b9 : x12.ownBlock ≠ some b9 := fun e => Nat.lt_irrefl _ (Nat.lt_of_lt_of_le hbb9_18.lt (OwnT.block_lt t12 e).1)
  have no_x12_x43 : ∀ k, x12.ownBlock = some k → x43.ownBlock ≠ some k := fun k e e' => Nat.lt_irrefl _ (Nat.lt_of_lt_of_le (OwnT.block_lt hox43_18 e').2 (OwnT.block_lt t12 e).1)
  have hsx12_20 := t12.sl.wide (Nat.zero_le _) (.inl rfl)
  have hox12_20 := OwnT.base t12 hE_18.size'
  clear hE_18 hN_18 hD_18 s3_18 s9_18 s10_18 s66_18 hbb3_18 hbb7_18 hbb9_18 hsx1_18 hsx43_18 hox43_18
  refine tail_nil ?_
  refine wp_seq ?_
  refine wp_seq ?_
  refine region_lex [] [(71, Pr.ex (x11)), (72, Pr.ex (x12)), (73, Pr.ex (Value.bool (decide (items.map of = (items.set ((((which).toNat) % items.length)) s).map of))))] 3 hN_20 hD_20 (by kernel_rfl) (by kernel_rfl) ?_ ?_
  · refine Asks.cons ?_ (Asks.cons ?_ (Asks.cons ?_ (Asks.zero _)))
    · refine Ask.plain rfl rfl ?_
      intro aq wq hNq hO hR hT
      exact does_move (V := x11) ((hO 11 rfl).trans s11_20) ⟨Ext.refl _, rfl⟩
    · refine Ask.plain rfl rfl ?_
      intro aq wq hNq hO hR hT
      exact does_move (V := x12) ((hO 12 rfl).trans s12_20) ⟨Ext.refl _, rfl⟩
    · refine Ask.plain rfl rfl ?_
      intro aq wq hNq hO hR hT
      exact does_ret (vs := #[x11, x12]) call_22 (args2 (hT 71 rfl rfl) (hT 72 rfl rfl)) rfl ((same_ (items.map of) ((items.set ((((which).toNat) % items.length)) s).map of) (x11) (x12) wq ((hsx11_20.ext' hR).wide (Nat.zero_le _) (.inl rfl)) ((hsx12_20.ext' hR).wide (Nat.zero_le _) (.inl rfl)) (by simp only [List.length_map, List.length_set]; omega)).mono fun v w2 h => ⟨h.2, h.1⟩)
  intro a21 wd21 hN_21 hD_21 hO hR hA hU
  obtain ⟨_, _, t73, _⟩ := hA
  have hE_21 := hE_20.trans hR
  have s10_21 := (hO 10 rfl).trans s10_20
  have s11_21 := (hO 11 rfl).trans s11_20
  have s12_21 := (hO 12 rfl).trans s12_20
  have hbb3_21 := hbb3_20.ext' hR
  have hbb7_21 := hbb7_20.ext' hR
  have hbb9_21 := hbb9_20.ext' hR
  have hsx1_21 := hsx1_20.ext' hR
  have hsx43_21 := hsx43_20.ext' hR
  have hsx11_21 := hsx11_20.ext' hR
  have hsx12_21 := hsx12_20.ext' hR
  have hox43_21 := hox43_20.ext' hR
  have hox11_21 := hox11_20.ext' hR
  have hox12_21 := hox12_20.ext' hR
  have s73_21 : get a21 73 = Value.bool (decide (items.map of = (items.set ((((which).toNat) % items.length)) s).map of)) := t73
  clear hE_20 hN_20 hD_20 s10_20 s11_20 s12_20 hbb3_20 hbb7_20 hbb9_20 hsx1_20 hsx43_20 hsx11_20 hsx12_20 hox43_20 hox11_20 hox12_20
  refine tail_nil ?_
  refine wp_if (B := decide (items.map of = (items.set ((((which).toNat) % items.length)) s).map of)) s73_21 (fun hc3 => ?_) (fun hc3 => ?_)
  · -- T 3
    have hc3 := of_decide_eq_true hc3
    refine wp_seq ?_
    refine region_lex [] [(74, Pr.ex (i64 ((lost (items.set ((((which).toNat) % items.length)) s) (⟨((items.length : Nat) : Int), root (items.map of)⟩ : Head) : Nat) : Int))), (75, Pr.ex (Value.bool (decide (((lost (items.set ((((which).toNat) % items.length)) s) (⟨((items.length : Nat) : Int), root (items.map of)⟩ : Head) : Nat) : Int) = ((0 : Nat) : Int))))), (6, Pr.ex (Value.bool (decide (((lost (items.set ((((which).toNat) % items.length)) s) (⟨((items.length : Nat) : Int), root (items.map of)⟩ : Head) : Nat) : Int) = ((0 : Nat) : Int)))))] 3 hN_21 hD_21 (by kernel_rfl) (by kernel_rfl) ?_ ?_
    · refine Asks.cons ?_ (Asks.cons ?_ (Asks.cons ?_ (Asks.zero _)))
      · refine Ask.plain rfl rfl ?_
        intro aq wq hNq hO hR hT
        exact does_move (V := i64 ((lost (items.set ((((which).toNat) % items.length)) s) (⟨((items.length : Nat) : Int), root (items.map of)⟩ : Head) : Nat) : Int)) ((hO 10 rfl).trans s10_21) ⟨Ext.refl _, rfl⟩
      · refine Ask.plain rfl rfl ?_
        intro aq wq hNq hO hR hT
        exact does_eql (a := ((lost (items.set ((((which).toNat) % items.length)) s) (⟨((items.length : Nat) : Int), root (items.map of)⟩ : Head) : Nat) : Int)) (b := ((0 : Nat) : Int)) (hT 74 rfl rfl) rfl ⟨Ext.refl _, rfl⟩
      · refine Ask.plain rfl rfl ?_
        intro aq wq hNq hO hR hT
        exact does_assign (V := Value.bool (decide (((lost (items.set ((((which).toNat) % items.length)) s) (⟨((items.length : Nat) : Int), root (items.map of)⟩ : Head) : Nat) : Int) = ((0 : Nat) : Int)))) (hT 75 rfl rfl) ⟨Ext.refl _, rfl⟩
    intro a22 wd22 hN_22 hD_22 hO hR hA hU
    obtain ⟨_, _, t6, _⟩ := hA
    have hE_22 := hE_21.trans hR
    have hbb3_22 := hbb3_21.ext' hR
    have hbb7_22 := hbb7_21.ext' hR
    have hbb9_22 := hbb9_21.ext' hR
    have hsx1_22 := hsx1_21.ext' hR
    have hsx43_22 := hsx43_21.ext' hR
    have hsx11_22 := hsx11_21.ext' hR
    have hsx12_22 := hsx12_21.ext' hR
    have hox43_22 := hox43_21.ext' hR
    have hox11_22 := hox11_21.ext' hR
    have hox12_22 := hox12_21.ext' hR
    have s6_22 : get a22 6 = Value.bool (decide (((lost (items.set ((((which).toNat) % items.length)) s) (⟨((items.length : Nat) : Int), root (items.map of)⟩ : Head) : Nat) : Int) = ((0 : Nat) : Int))) := t6
    clear hE_21 hN_21 hD_21 s10_21 s11_21 s12_21 s73_21 hbb3_21 hbb7_21 hbb9_21 hsx1_21 hsx43_21 hsx11_21 hsx12_21 hox43_21 hox11_21 hox12_21
    refine tail_nil ?_
    refine wp_ret ?_
    refine res_one (V := Value.bool (decide (((lost (items.set ((((which).toNat) % items.length)) s) (⟨((items.length : Nat) : Int), root (items.map of)⟩ : Head) : Nat) : Int) = ((0 : Nat) : Int)))) rfl hD_22 s6_22 ?_
    exact ⟨congrArg Value.bool (by rw [(other_lost hc2).1]; rfl), hE_22⟩
  have hc3 := of_decide_eq_false hc3
  refine wp_skip ?_
  refine wp_seq ?_
  refine region_lex [13, 14] [(77, Pr.ex (x11)), (78, Pr.ex (x12)), (79, Pr.ex (Value.tuple #[Value.agg #[w32 ((clash (items.map of) ((items.set ((((which).toNat) % items.length)) s).map of)).1.1).a, w32 ((clash (items.map of) ((items.set ((((which).toNat) % items.length)) s).map of)).1.1).b, w32 ((clash (items.map of) ((items.set ((((which).toNat) % items.length)) s).map of)).1.1).c, w32 ((clash (items.map of) ((items.set ((((which).toNat) % items.length)) s).map of)).1.1).d, w32 ((clash (items.map of) ((items.set ((((which).toNat) % items.length)) s).map of)).1.2).a, w32 ((clash (items.map of) ((items.set ((((which).toNat) % items.length)) s).map of)).1.2).b, w32 ((clash (items.map of) ((items.set ((((which).toNat) % items.length)) s).map of)).1.2).c, w32 ((clash (items.map of) ((items.set ((((which).toNat) % items.length)) s).map of)).1.2).d], Value.agg #[w32 ((clash (items.map of) ((items.set ((((which).toNat) % items.length)) s).map of)).2.1.1).a, w32 ((clash (items.map of) ((items.set ((((which).toNat) % items.length)) s).map of)).2.1.1).b, w32 ((clash (items.map of) ((items.set ((((which).toNat) % items.length)) s).map of)).2.1.1).c, w32 ((clash (items.map of) ((items.set ((((which).toNat) % items.length)) s).map of)).2.1.1).d, w32 ((clash (items.map of) ((items.set ((((which).toNat) % items.length)) s).map of)).2.1.2).a, w32 ((clash (items.map of) ((items.set ((((which).toNat) % items.length)) s).map of)).2.1.2).b, w32 ((clash (items.map of) ((items.set ((((which).toNat) % items.length)) s).map of)).2.1.2).c, w32 ((clash (items.map of) ((items.set ((((which).toNat) % items.length)) s).map of)).2.1.2).d], Value.bool ((clash (items.map of) ((items.set ((((which).toNat) % items.length)) s).map of)).2.2)])), (76, Pr.ex (Value.tuple #[Value.agg #[w32 ((clash (items.map of) ((items.set ((((which).toNat) % items.length)) s).map of)).1.1).a, w32 ((clash (items.map of) ((items.set ((((which).toNat) % items.length)) s).map of)).1.1).b, w32 ((clash (items.map of) ((items.set ((((which).toNat) % items.length)) s).map of)).1.1).c, w32 ((clash (items.map of) ((items.set ((((which).toNat) % items.length)) s).map of)).1.1).d, w32 ((clash (items.map of) ((items.set ((((which).toNat) % items.length)) s).map of)).1.2).a, w32 ((clash (items.map of) ((items.set ((((which).toNat) % items.length)) s).map of)).1.2).b, w32 ((clash (items.map of) ((items.set ((((which).toNat) % items.length)) s).map of)).1.2).c, w32 ((clash (items.map of) ((items.set ((((which).toNat) % items.length)) s).map of)).1.2).d], Value.agg #[w32 ((clash (items.map of) ((items.set ((((which).toNat) % items.length)) s).map of)).2.1.1).a, w32 ((clash (items.map of) ((items.set ((((which).toNat) % items.length)) s).map of)).2.1.1).b, w32 ((clash (items.map of) ((items.set ((((which).toNat) % items.length)) s).map of)).2.1.1).c, w32 ((clash (items.map of) ((items.set ((((which).toNat) % items.length)) s).map of)).2.1.1).d, w32 ((clash (items.map of) ((items.set ((((which).toNat) % items.length)) s).map of)).2.1.2).a, w32 ((clash (items.map of) ((items.set ((((which).toNat) % items.length)) s).map of)).2.1.2).b, w32 ((clash (items.map of) ((items.set ((((which).toNat) % items.length)) s).map of)).2.1.2).c, w32 ((clash (items.map of) ((items.set ((((which).toNat) % items.length)) s).map of)).2.1.2).d], Value.bool ((clash (items.map of) ((items.set ((((which).toNat) % items.length)) s).map of)).2.2)])), (80, Pr.ex (Value.agg #[w32 ((clash (items.map of) ((items.set ((((which).toNat) % items.length)) s).map of)).1.1).a, w32 ((clash (items.map of) ((items.set ((((which).toNat) % items.length)) s).map of)).1.1).b, w32 ((clash (items.map of) ((items.set ((((which).toNat) % items.length)) s).map of)).1.1).c, w32 ((clash (items.map of) ((items.set ((((which).toNat) % items.length)) s).map of)).1.1).d, w32 ((clash (items.map of) ((items.set ((((which).toNat) % items.length)) s).map of)).1.2).a, w32 ((clash (items.map of) ((items.set ((((which).toNat) % items.length)) s).map of)).1.2).b, w32 ((clash (items.map of) ((items.set ((((which).toNat) % items.length)) s).map of)).1.2).c, w32 ((clash (items.map of) ((items.set ((((which).toNat) % items.length)) s).map of)).1.2).d])), (81, Pr.ex (Value.agg #[w32 ((clash (items.map of) ((items.set ((((which).toNat) % items.length)) s).map of)).2.1.1).a, w32 ((clash (items.map of) ((items.set ((((which).toNat) % items.length)) s).map of)).2.1.1).b, w32 ((clash (items.map of) ((items.set ((((which).toNat) % items.length)) s).map of)).2.1.1).c, w32 ((clash (items.map of) ((items.set ((((which).toNat) % items.length)) s).map of)).2.1.1).d, w32 ((clash (items.map of) ((items.set ((((which).toNat) % items.length)) s).map of)).2.1.2).a, w32 ((clash (items.map of) ((items.set ((((which).toNat) % items.length)) s).map of)).2.1.2).b, w32 ((clash (items.map of) ((items.set ((((which).toNat) % items.length)) s).map of)).2.1.2).c, w32 ((clash (items.map of) ((items.set ((((which).toNat) % items.length)) s).map of)).2.1.2).d])), (82, Pr.ex (Value.bool ((clash (items.map of) ((items.set ((((which).toNat) % items.length)) s).map of)).2.2))), (13, Pr.box' wd21.heap.size 44 [w32 (Dg.zero).a, w32 (Dg.zero).b, w32 (Dg.zero).c, w32 (Dg.zero).d, w32 (Dg.zero).a, w32 (Dg.zero).b, w32 (Dg.zero).c, w32 (Dg.zero).d]), (14, Pr.box' wd21.heap.size 44 [w32 (Dg.zero).a, w32 (Dg.zero).b, w32 (Dg.zero).c, w32 (Dg.zero).d, w32 (Dg.zero).a, w32 (Dg.zero).b, w32 (Dg.zero).c, w32 (Dg.zero).d])] 9 hN_21 hD_21 (by kernel_rfl) (by kernel_rfl) ?_ ?_
  · refine Asks.cons ?_ (Asks.cons ?_ (Asks.cons ?_ (Asks.cons ?_ (Asks.cons ?_ (Asks.cons ?_ (Asks.cons ?_ (Asks.cons ?_ (Asks.cons ?_ (Asks.zero _)))))))))
    · refine Ask.plain rfl rfl ?_
      intro aq wq hNq hO hR hT
      exact does_move (V := x11) ((hO 11 rfl).trans s11_21) ⟨Ext.refl _, rfl⟩
    · refine Ask.plain rfl rfl ?_
      intro aq wq hNq hO hR hT
      exact does_move (V := x12) ((hO 12 rfl).trans s12_21) ⟨Ext.refl _, rfl⟩
    · refine Ask.plain rfl rfl ?_
      intro aq wq hNq hO hR hT
      exact does_ret (vs := #[x11, x12]) call_23 (args2 (hT 77 rfl rfl) (hT 78 rfl rfl)) rfl ((clash_ (items.map of) ((items.set ((((which).toNat) % items.length)) s).map of) (x11) (x12) wq (hL.ext (hE_21.trans hR)) ((hsx11_21.ext' hR).wide (Nat.zero_le _) (.inl rfl)) ((hsx12_21.ext' hR).wide (Nat.zero_le _) (.inl rfl)) (by simp only [List.length_map, List.length_set]; omega) (by simp only [List.length_map, List.length_set]; omega)).mono fun v w2 h => ⟨h.2, h.1⟩)
    · refine Ask.plain rfl rfl ?_
      intro aq wq hNq hO hR hT
      exact does_move (V := Value.tuple #[Value.agg #[w32 ((clash (items.map of) ((items.set ((((which).toNat) % items.length)) s).map of)).1.1).a, w32 ((clash (items.map of) ((items.set ((((which).toNat) % items.length)) s).map of)).1.1).b, w32 ((clash (items.map of) ((items.set ((((which).toNat) % items.length)) s).map of)).1.1).c, w32 ((clash (items.map of) ((items.set ((((which).toNat) % items.length)) s).map of)).1.1).d, w32 ((clash (items.map of) ((items.set ((((which).toNat) % items.length)) s).map of)).1.2).a, w32 ((clash (items.map of) ((items.set ((((which).toNat) % items.length)) s).map of)).1.2).b, w32 ((clash (items.map of) ((items.set ((((which).toNat) % items.length)) s).map of)).1.2).c, w32 ((clash (items.map of) ((items.set ((((which).toNat) % items.length)) s).map of)).1.2).d], Value.agg #[w32 ((clash (items.map of) ((items.set ((((which).toNat) % items.length)) s).map of)).2.1.1).a, w32 ((clash (items.map of) ((items.set ((((which).toNat) % items.length)) s).map of)).2.1.1).b, w32 ((clash (items.map of) ((items.set ((((which).toNat) % items.length)) s).map of)).2.1.1).c, w32 ((clash (items.map of) ((items.set ((((which).toNat) % items.length)) s).map of)).2.1.1).d, w32 ((clash (items.map of) ((items.set ((((which).toNat) % items.length)) s).map of)).2.1.2).a, w32 ((clash (items.map of) ((items.set ((((which).toNat) % items.length)) s).map of)).2.1.2).b, w32 ((clash (items.map of) ((items.set ((((which).toNat) % items.length)) s).map of)).2.1.2).c, w32 ((clash (items.map of) ((items.set ((((which).toNat) % items.length)) s).map of)).2.1.2).d], Value.bool ((clash (items.map of) ((items.set ((((which).toNat) % items.length)) s).map of)).2.2)]) (hT 79 rfl rfl) ⟨Ext.refl _, rfl⟩
    · refine Ask.plain rfl rfl ?_
      intro aq wq hNq hO hR hT
      exact does_extract (V := Value.agg #[w32 ((clash (items.map of) ((items.set ((((which).toNat) % items.length)) s).map of)).1.1).a, w32 ((clash (items.map of) ((items.set ((((which).toNat) % items.length)) s).map of)).1.1).b, w32 ((clash (items.map of) ((items.set ((((which).toNat) % items.length)) s).map of)).1.1).c, w32 ((clash (items.map of) ((items.set ((((which).toNat) % items.length)) s).map of)).1.1).d, w32 ((clash (items.map of) ((items.set ((((which).toNat) % items.length)) s).map of)).1.2).a, w32 ((clash (items.map of) ((items.set ((((which).toNat) % items.length)) s).map of)).1.2).b, w32 ((clash (items.map of) ((items.set ((((which).toNat) % items.length)) s).map of)).1.2).c, w32 ((clash (items.map of) ((items.set ((((which).toNat) % items.length)) s).map of)).1.2).d]) (hT 76 rfl rfl) rfl ⟨Ext.refl _, rfl⟩
    · refine Ask.plain rfl rfl ?_
      intro aq wq hNq hO hR hT
      exact does_extract (V := Value.agg #[w32 ((clash (items.map of) ((items.set ((((which).toNat) % items.length)) s).map of)).2.1.1).a, w32 ((clash (items.map of) ((items.set ((((which).toNat) % items.length)) s).map of)).2.1.1).b, w32 ((clash (items.map of) ((items.set ((((which).toNat) % items.length)) s).map of)).2.1.1).c, w32 ((clash (items.map of) ((items.set ((((which).toNat) % items.length)) s).map of)).2.1.1).d, w32 ((clash (items.map of) ((items.set ((((which).toNat) % items.length)) s).map of)).2.1.2).a, w32 ((clash (items.map of) ((items.set ((((which).toNat) % items.length)) s).map of)).2.1.2).b, w32 ((clash (items.map of) ((items.set ((((which).toNat) % items.length)) s).map of)).2.1.2).c, w32 ((clash (items.map of) ((items.set ((((which).toNat) % items.length)) s).map of)).2.1.2).d]) (hT 76 rfl rfl) rfl ⟨Ext.refl _, rfl⟩
    · refine Ask.plain rfl rfl ?_
      intro aq wq hNq hO hR hT
      exact does_extract (V := Value.bool ((clash (items.map of) ((items.set ((((which).toNat) % items.length)) s).map of)).2.2)) (hT 76 rfl rfl) rfl ⟨Ext.refl _, rfl⟩
    · refine Ask.fresh rfl rfl ?_
      intro aq wq hNq hO hR hT
      exact does_alloc zero_44 (fun b w2 he hlo hb => ⟨he, ⟨b, rfl, Nat.le_trans hR.size' hlo, hb⟩, ⟨b, rfl, hlo, hb.lt⟩⟩)
    · refine Ask.fresh rfl rfl ?_
      intro aq wq hNq hO hR hT
      exact does_alloc zero_44 (fun b w2 he hlo hb => ⟨he, ⟨b, rfl, Nat.le_trans hR.size' hlo, hb⟩, ⟨b, rfl, hlo, hb.lt⟩⟩)
  intro a23 wd23 hN_23 hD_23 hO hR hA hU
  obtain ⟨_, _, _, _, t80, t81, t82, t13, t14, _⟩ := hA
  have hE_23 := hE_21.trans hR
  have s10_23 := (hO 10 rfl).trans s10_21
  have hbb3_23 := hbb3_21.ext' hR
  have hbb7_23 := hbb7_21.ext' hR
  have hbb9_23 := hbb9_21.ext' hR
  have hsx1_23 := hsx1_21.ext' hR
  have hsx43_23 := hsx43_21.ext' hR
  have hsx11_23 := hsx11_21.ext' hR
  have hsx12_23 := hsx12_21.ext' hR
  have hox43_23 := hox43_21.ext' hR
  have hox11_23 := hox11_21.ext' hR
  have hox12_23 := hox12_21.ext' hR
  have s80_23 : get a23 80 = Value.agg #[w32 ((clash (items.map of) ((items.set ((((which).toNat) % items.length)) s).map of)).1.1).a, w32 ((clash (items.map of) ((items.set ((((which).toNat) % items.length)) s).map of)).1.1).b, w32 ((clash (items.map of) ((items.set ((((which).toNat) % items.length)) s).map of)).1.1).c, w32 ((clash (items.map of) ((items.set ((((which).toNat) % items.length)) s).map of)).1.1).d, w32 ((clash (items.map of) ((items.set ((((which).toNat) % items.length)) s).map of)).1.2).a, w32 ((clash (items.map of) ((items.set ((((which).toNat) % items.length)) s).map of)).1.2).b, w32 ((clash (items.map of) ((items.set ((((which).toNat) % items.length)) s).map of)).1.2).c, w32 ((clash (items.map of) ((items.set ((((which).toNat) % items.length)) s).map of)).1.2).d] := t80
  have s81_23 : get a23 81 = Value.agg #[w32 ((clash (items.map of) ((items.set ((((which).toNat) % items.length)) s).map of)).2.1.1).a, w32 ((clash (items.map of) ((items.set ((((which).toNat) % items.length)) s).map of)).2.1.1).b, w32 ((clash (items.map of) ((items.set ((((which).toNat) % items.length)) s).map of)).2.1.1).c, w32 ((clash (items.map of) ((items.set ((((which).toNat) % items.length)) s).map of)).2.1.1).d, w32 ((clash (items.map of) ((items.set ((((which).toNat) % items.length)) s).map of)).2.1.2).a, w32 ((clash (items.map of) ((items.set ((((which).toNat) % items.length)) s).map of)).2.1.2).b, w32 ((clash (items.map of) ((items.set ((((which).toNat) % items.length)) s).map of)).2.1.2).c, w32 ((clash (items.map of) ((items.set ((((which).toNat) % items.length)) s).map of)).2.1.2).d] := t81
  have s82_23 : get a23 82 = Value.bool ((clash (items.map of) ((items.set ((((which).toNat) % items.length)) s).map of)).2.2) := t82
  obtain ⟨b13, s13_23, lo_b13, hbb13_23⟩ := t13
  have ne_b3_b13 : b3 ≠ b13 := fun e => Nat.lt_irrefl _ (Nat.lt_of_lt_of_le hbb3_21.lt (e ▸ lo_b13))
  have ne_b7_b13 : b7 ≠ b13 := fun e => Nat.lt_irrefl _ (Nat.lt_of_lt_of_le hbb7_21.lt (e ▸ lo_b13))
  have ne_b9_b13 : b9 ≠ b13 := fun e => Nat.lt_irrefl _ (Nat.lt_of_lt_of_le hbb9_21.lt (e ▸ lo_b13))
  have nb_x1_b13 := SlT.old hsx1_21 lo_b13
  have nb_x43_b13 := SlT.old hsx43_21 lo_b13
  have nb_x11_b13 := SlT.old hsx11_21 lo_b13
  have nb_x12_b13 := SlT.old hsx12_21 lo_b13
  have nbo_x43_b13 : x43.ownBlock ≠ some b13 := fun e => Nat.lt_irrefl _ (Nat.lt_of_lt_of_le (OwnT.block_lt hox43_21 e).2 lo_b13)
  have nbo_x11_b13 : x11.ownBlock ≠ some b13 := fun e => Nat.lt_irrefl _ (Nat.lt_of_lt_of_le (OwnT.block_lt hox11_21 e).2 lo_b13)
  have nbo_x12_b13 : x12.ownBlock ≠ some b13 := fun e => Nat.lt_irrefl _ (Nat.lt_of_lt_of_le (OwnT.block_lt hox12_21 e).2 lo_b13)
  have fr_b13 : w0.heap.size ≤ b13 := Nat.le_trans hE_21.size' lo_b13
  obtain ⟨b14, s14_23, lo_b14, hbb14_23⟩ := t14
  have ne_b3_b14 : b3 ≠ b14 := fun e => Nat.lt_irrefl _ (Nat.lt_of_lt_of_le hbb3_21.lt (e ▸ lo_b14))
  have ne_b7_b14 : b7 ≠ b14 := fun e => Nat.lt_irrefl _ (Nat.lt_of_lt_of_le hbb7_21.lt (e ▸ lo_b14))
  have ne_b9_b14 : b9 ≠ b14 := fun e => Nat.lt_irrefl _ (Nat.lt_of_lt_of_le hbb9_21.lt (e ▸ lo_b14))
  have nb_x1_b14 := SlT.old hsx1_21 lo_b14
  have nb_x43_b14 := SlT.old hsx43_21 lo_b14
  have nb_x11_b14 := SlT.old hsx11_21 lo_b14
  have nb_x12_b14 := SlT.old hsx12_21 lo_b14
  have nbo_x43_b14 : x43.ownBlock ≠ some b14 := fun e => Nat.lt_irrefl _ (Nat.lt_of_lt_of_le (OwnT.block_lt hox43_21 e).2 lo_b14)
  have nbo_x11_b14 : x11.ownBlock ≠ some b14 := fun e => Nat.lt_irrefl _ (Nat.lt_of_lt_of_le (OwnT.block_lt hox11_21 e).2 lo_b14)
  have nbo_x12_b14 : x12.ownBlock ≠ some b14 := fun e => Nat.lt_irrefl _ (Nat.lt_of_lt_of_le (OwnT.block_lt hox12_21 e).2 lo_b14)
  have fr_b14 : w0.heap.size ≤ b14 := Nat.le_trans hE_21.size' lo_b14
  obtain ⟨u0, ⟨u1, _⟩⟩ := hU
  have ne_b13_b14 : b13 ≠ b14 := fun e => u0 14 (by decide) (by rw [s13_23, s14_23, e])
  clear hE_21 hN_21 hD_21 s10_21 s11_21 s12_21 s73_21 hbb3_21 hbb7_21 hbb9_21 hsx1_21 hsx43_21 hsx11_21 hsx12_21 hox43_21 hox11_21 hox12_21
  refine tail_none rfl rfl (does_storeD (o := 0) (n := 8) (cs' := [w32 ((clash (items.map of) ((items.set ((((which).toNat) % items.length)) s).map of)).1.1).a, w32 ((clash (items.map of) ((items.set ((((which).toNat) % items.length)) s).map of)).1.1).b, w32 ((clash (items.map of) ((items.set ((((which).toNat) % items.length)) s).map of)).1.1).c, w32 ((clash (items.map of) ((items.set ((((which).toNat) % items.length)) s).map of)).1.1).d, w32 ((clash (items.map of) ((items.set ((((which).toNat) % items.length)) s).map of)).1.2).a, w32 ((clash (items.map of) ((items.set ((((which).toNat) % items.length)) s).map of)).1.2).b, w32 ((clash (items.map of) ((items.set ((((which).toNat) % items.length)) s).map of)).1.2).c, w32 ((clash (items.map of) ((items.set ((((which).toNat) % items.length)) s).map of)).1.2).d]) (V := Value.agg #[w32 ((clash (items.map of) ((items.set ((((which).toNat) % items.length)) s).map of)).1.1).a, w32 ((clash (items.map of) ((items.set ((((which).toNat) % items.length)) s).map of)).1.1).b, w32 ((clash (items.map of) ((items.set ((((which).toNat) % items.length)) s).map of)).1.1).c, w32 ((clash (items.map of) ((items.set ((((which).toNat) % items.length)) s).map of)).1.1).d, w32 ((clash (items.map of) ((items.set ((((which).toNat) % items.length)) s).map of)).1.2).a, w32 ((clash (items.map of) ((items.set ((((which).toNat) % items.length)) s).map of)).1.2).b, w32 ((clash (items.map of) ((items.set ((((which).toNat) % items.length)) s).map of)).1.2).c, w32 ((clash (items.map of) ((items.set ((((which).toNat) % items.length)) s).map of)).1.2).d]) s13_23 s80_23 hbb13_23 (Nat.le_of_ble_eq_true rfl) rfl siz_44 rfl rfl (fun wd24 hX hz hbb13_24 => ?_))
  have hE_24 := hE_23.since hX (fun k e => e ▸ fr_b13)
  have hbb3_24 := hbb3_23.ext hX ne_b3_b13
  have hbb7_24 := hbb7_23.ext hX ne_b7_b13
  have hbb9_24 := hbb9_23.ext hX ne_b9_b13
  have hbb14_24 := hbb14_23.ext hX ne_b13_b14.symm
  have hsx1_24 := SlT.over hsx1_23 hX nb_x1_b13
  have hsx43_24 := SlT.over hsx43_23 hX nb_x43_b13
  have hsx11_24 := SlT.over hsx11_23 hX nb_x11_b13
  have hsx12_24 := SlT.over hsx12_23 hX nb_x12_b13
  have hox43_24 := OwnT.ext hox43_23 hX (fun k hk e => nbo_x43_b13 (e ▸ hk))
  have hox11_24 := OwnT.ext hox11_23 hX (fun k hk e => nbo_x11_b13 (e ▸ hk))
  have hox12_24 := OwnT.ext hox12_23 hX (fun k hk e => nbo_x12_b13 (e ▸ hk))
  clear hX hz hE_23 hbb3_23 hbb7_23 hbb9_23 hbb13_23 hbb14_23 hsx1_23 hsx43_23 hsx11_23 hsx12_23 hox43_23 hox11_23 hox12_23
  refine tail_none rfl rfl (does_storeD (o := 0) (n := 8) (cs' := [w32 ((clash (items.map of) ((items.set ((((which).toNat) % items.length)) s).map of)).2.1.1).a, w32 ((clash (items.map of) ((items.set ((((which).toNat) % items.length)) s).map of)).2.1.1).b, w32 ((clash (items.map of) ((items.set ((((which).toNat) % items.length)) s).map of)).2.1.1).c, w32 ((clash (items.map of) ((items.set ((((which).toNat) % items.length)) s).map of)).2.1.1).d, w32 ((clash (items.map of) ((items.set ((((which).toNat) % items.length)) s).map of)).2.1.2).a, w32 ((clash (items.map of) ((items.set ((((which).toNat) % items.length)) s).map of)).2.1.2).b, w32 ((clash (items.map of) ((items.set ((((which).toNat) % items.length)) s).map of)).2.1.2).c, w32 ((clash (items.map of) ((items.set ((((which).toNat) % items.length)) s).map of)).2.1.2).d]) (V := Value.agg #[w32 ((clash (items.map of) ((items.set ((((which).toNat) % items.length)) s).map of)).2.1.1).a, w32 ((clash (items.map of) ((items.set ((((which).toNat) % items.length)) s).map of)).2.1.1).b, w32 ((clash (items.map of) ((items.set ((((which).toNat) % items.length)) s).map of)).2.1.1).c, w32 ((clash (items.map of) ((items.set ((((which).toNat) % items.length)) s).map of)).2.1.1).d, w32 ((clash (items.map of) ((items.set ((((which).toNat) % items.length)) s).map of)).2.1.2).a, w32 ((clash (items.map of) ((items.set ((((which).toNat) % items.length)) s).map of)).2.1.2).b, w32 ((clash (items.map of) ((items.set ((((which).toNat) % items.length)) s).map of)).2.1.2).c, w32 ((clash (items.map of) ((items.set ((((which).toNat) % items.length)) s).map of)).2.1.2).d]) s14_23 s81_23 hbb14_24 (Nat.le_of_ble_eq_true rfl) rfl siz_44 rfl rfl (fun wd25 hX hz hbb14_25 => ?_))
  have hE_25 := hE_24.since hX (fun k e => e ▸ fr_b14)
  have hbb3_25 := hbb3_24.ext hX ne_b3_b14
  have hbb7_25 := hbb7_24.ext hX ne_b7_b14
  have hbb9_25 := hbb9_24.ext hX ne_b9_b14
  have hbb13_25 := hbb13_24.ext hX ne_b13_b14
  have hsx1_25 := SlT.over hsx1_24 hX nb_x1_b14
  have hsx43_25 := SlT.over hsx43_24 hX nb_x43_b14
  have hsx11_25 := SlT.over hsx11_24 hX nb_x11_b14
  have hsx12_25 := SlT.over hsx12_24 hX nb_x12_b14
  have hox43_25 := OwnT.ext hox43_24 hX (fun k hk e => nbo_x43_b14 (e ▸ hk))
  have hox11_25 := OwnT.ext hox11_24 hX (fun k hk e => nbo_x11_b14 (e ▸ hk))
  have hox12_25 := OwnT.ext hox12_24 hX (fun k hk e => nbo_x12_b14 (e ▸ hk))
  clear hX hz hE_24 hbb3_24 hbb7_24 hbb9_24 hbb13_24 hbb14_24 hsx1_24 hsx43_24 hsx11_24 hsx12_24 hox43_24 hox11_24 hox12_24
  refine tail_put rfl rfl hN_23 hD_23 (by decide) (does_assign (V := Value.bool ((clash (items.map of) ((items.set ((((which).toNat) % items.length)) s).map of)).2.2)) s82_23 (fun a26 hN_26 hD_26 hv hO => ?_))
  have s15_26 := hv
  have s10_26 := (hO 10 rfl).trans s10_23
  have s13_26 := (hO 13 rfl).trans s13_23
  have s14_26 := (hO 14 rfl).trans s14_23
  clear hO hv hN_23 hD_23 s10_23 s13_23 s14_23 s80_23 s81_23 s82_23
  refine tail_nil ?_
  refine wp_seq ?_
  refine region_any [] [(83, Pr.ex (i64 ((lost (items.set ((((which).toNat) % items.length)) s) (⟨((items.length : Nat) : Int), root (items.map of)⟩ : Head) : Nat) : Int))), (84, Pr.ex (Value.bool (decide (((lost (items.set ((((which).toNat) % items.length)) s) (⟨((items.length : Nat) : Int), root (items.map of)⟩ : Head) : Nat) : Int) = ((0 : Nat) : Int))))), (85, Pr.ex (Value.bool (decide (((lost (items.set ((((which).toNat) % items.length)) s) (⟨((items.length : Nat) : Int), root (items.map of)⟩ : Head) : Nat) : Int) = ((0 : Nat) : Int))))), (86, Pr.ifb (decide (((lost (items.set ((((which).toNat) % items.length)) s) (⟨((items.length : Nat) : Int), root (items.map of)⟩ : Head) : Nat) : Int) = ((0 : Nat) : Int))) (Pr.ex (Value.bool ((clash (items.map of) ((items.set ((((which).toNat) % items.length)) s).map of)).2.2)))), (87, Pr.ex (Value.bool ((decide (((lost (items.set ((((which).toNat) % items.length)) s) (⟨((items.length : Nat) : Int), root (items.map of)⟩ : Head) : Nat) : Int) = ((0 : Nat) : Int))) && ((clash (items.map of) ((items.set ((((which).toNat) % items.length)) s).map of)).2.2)))), (88, Pr.ex (Value.bool ((decide (((lost (items.set ((((which).toNat) % items.length)) s) (⟨((items.length : Nat) : Int), root (items.map of)⟩ : Head) : Nat) : Int) = ((0 : Nat) : Int))) && ((clash (items.map of) ((items.set ((((which).toNat) % items.length)) s).map of)).2.2)))), (89, Pr.ifb ((decide (((lost (items.set ((((which).toNat) % items.length)) s) (⟨((items.length : Nat) : Int), root (items.map of)⟩ : Head) : Nat) : Int) = ((0 : Nat) : Int))) && ((clash (items.map of) ((items.set ((((which).toNat) % items.length)) s).map of)).2.2)) (Pr.ex (Value.agg #[w32 ((clash (items.map of) ((items.set ((((which).toNat) % items.length)) s).map of)).1.1).a, w32 ((clash (items.map of) ((items.set ((((which).toNat) % items.length)) s).map of)).1.1).b, w32 ((clash (items.map of) ((items.set ((((which).toNat) % items.length)) s).map of)).1.1).c, w32 ((clash (items.map of) ((items.set ((((which).toNat) % items.length)) s).map of)).1.1).d, w32 ((clash (items.map of) ((items.set ((((which).toNat) % items.length)) s).map of)).1.2).a, w32 ((clash (items.map of) ((items.set ((((which).toNat) % items.length)) s).map of)).1.2).b, w32 ((clash (items.map of) ((items.set ((((which).toNat) % items.length)) s).map of)).1.2).c, w32 ((clash (items.map of) ((items.set ((((which).toNat) % items.length)) s).map of)).1.2).d]))), (90, Pr.ifb ((decide (((lost (items.set ((((which).toNat) % items.length)) s) (⟨((items.length : Nat) : Int), root (items.map of)⟩ : Head) : Nat) : Int) = ((0 : Nat) : Int))) && ((clash (items.map of) ((items.set ((((which).toNat) % items.length)) s).map of)).2.2)) (Pr.ex (Value.agg #[w32 ((clash (items.map of) ((items.set ((((which).toNat) % items.length)) s).map of)).2.1.1).a, w32 ((clash (items.map of) ((items.set ((((which).toNat) % items.length)) s).map of)).2.1.1).b, w32 ((clash (items.map of) ((items.set ((((which).toNat) % items.length)) s).map of)).2.1.1).c, w32 ((clash (items.map of) ((items.set ((((which).toNat) % items.length)) s).map of)).2.1.1).d, w32 ((clash (items.map of) ((items.set ((((which).toNat) % items.length)) s).map of)).2.1.2).a, w32 ((clash (items.map of) ((items.set ((((which).toNat) % items.length)) s).map of)).2.1.2).b, w32 ((clash (items.map of) ((items.set ((((which).toNat) % items.length)) s).map of)).2.1.2).c, w32 ((clash (items.map of) ((items.set ((((which).toNat) % items.length)) s).map of)).2.1.2).d]))), (91, Pr.ifb ((decide (((lost (items.set ((((which).toNat) % items.length)) s) (⟨((items.length : Nat) : Int), root (items.map of)⟩ : Head) : Nat) : Int) = ((0 : Nat) : Int))) && ((clash (items.map of) ((items.set ((((which).toNat) % items.length)) s).map of)).2.2)) (Pr.ex (Value.bool (!decide ((((clash (items.map of) ((items.set ((((which).toNat) % items.length)) s).map of)).1.1, (clash (items.map of) ((items.set ((((which).toNat) % items.length)) s).map of)).1.2) : Two) = (((clash (items.map of) ((items.set ((((which).toNat) % items.length)) s).map of)).2.1.1, (clash (items.map of) ((items.set ((((which).toNat) % items.length)) s).map of)).2.1.2) : Two)))))), (92, Pr.ex (Value.bool (((decide (((lost (items.set ((((which).toNat) % items.length)) s) (⟨((items.length : Nat) : Int), root (items.map of)⟩ : Head) : Nat) : Int) = ((0 : Nat) : Int))) && ((clash (items.map of) ((items.set ((((which).toNat) % items.length)) s).map of)).2.2)) && (!decide ((((clash (items.map of) ((items.set ((((which).toNat) % items.length)) s).map of)).1.1, (clash (items.map of) ((items.set ((((which).toNat) % items.length)) s).map of)).1.2) : Two) = (((clash (items.map of) ((items.set ((((which).toNat) % items.length)) s).map of)).2.1.1, (clash (items.map of) ((items.set ((((which).toNat) % items.length)) s).map of)).2.1.2) : Two)))))), (93, Pr.ex (Value.bool (((decide (((lost (items.set ((((which).toNat) % items.length)) s) (⟨((items.length : Nat) : Int), root (items.map of)⟩ : Head) : Nat) : Int) = ((0 : Nat) : Int))) && ((clash (items.map of) ((items.set ((((which).toNat) % items.length)) s).map of)).2.2)) && (!decide ((((clash (items.map of) ((items.set ((((which).toNat) % items.length)) s).map of)).1.1, (clash (items.map of) ((items.set ((((which).toNat) % items.length)) s).map of)).1.2) : Two) = (((clash (items.map of) ((items.set ((((which).toNat) % items.length)) s).map of)).2.1.1, (clash (items.map of) ((items.set ((((which).toNat) % items.length)) s).map of)).2.1.2) : Two)))))), (94, Pr.ifb (((decide (((lost (items.set ((((which).toNat) % items.length)) s) (⟨((items.length : Nat) : Int), root (items.map of)⟩ : Head) : Nat) : Int) = ((0 : Nat) : Int))) && ((clash (items.map of) ((items.set ((((which).toNat) % items.length)) s).map of)).2.2)) && (!decide ((((clash (items.map of) ((items.set ((((which).toNat) % items.length)) s).map of)).1.1, (clash (items.map of) ((items.set ((((which).toNat) % items.length)) s).map of)).1.2) : Two) = (((clash (items.map of) ((items.set ((((which).toNat) % items.length)) s).map of)).2.1.1, (clash (items.map of) ((items.set ((((which).toNat) % items.length)) s).map of)).2.1.2) : Two)))) (Pr.ex (Value.pointer (some ⟨b13, 0, none⟩)))), (95, Pr.ifb (((decide (((lost (items.set ((((which).toNat) % items.length)) s) (⟨((items.length : Nat) : Int), root (items.map of)⟩ : Head) : Nat) : Int) = ((0 : Nat) : Int))) && ((clash (items.map of) ((items.set ((((which).toNat) % items.length)) s).map of)).2.2)) && (!decide ((((clash (items.map of) ((items.set ((((which).toNat) % items.length)) s).map of)).1.1, (clash (items.map of) ((items.set ((((which).toNat) % items.length)) s).map of)).1.2) : Two) = (((clash (items.map of) ((items.set ((((which).toNat) % items.length)) s).map of)).2.1.1, (clash (items.map of) ((items.set ((((which).toNat) % items.length)) s).map of)).2.1.2) : Two)))) (Pr.ex (Dg.val ((clash (items.map of) ((items.set ((((which).toNat) % items.length)) s).map of)).1.1)))), (96, Pr.ifb (((decide (((lost (items.set ((((which).toNat) % items.length)) s) (⟨((items.length : Nat) : Int), root (items.map of)⟩ : Head) : Nat) : Int) = ((0 : Nat) : Int))) && ((clash (items.map of) ((items.set ((((which).toNat) % items.length)) s).map of)).2.2)) && (!decide ((((clash (items.map of) ((items.set ((((which).toNat) % items.length)) s).map of)).1.1, (clash (items.map of) ((items.set ((((which).toNat) % items.length)) s).map of)).1.2) : Two) = (((clash (items.map of) ((items.set ((((which).toNat) % items.length)) s).map of)).2.1.1, (clash (items.map of) ((items.set ((((which).toNat) % items.length)) s).map of)).2.1.2) : Two)))) (Pr.ex (Value.pointer (some ⟨b13, 4, none⟩)))), (97, Pr.ifb (((decide (((lost (items.set ((((which).toNat) % items.length)) s) (⟨((items.length : Nat) : Int), root (items.map of)⟩ : Head) : Nat) : Int) = ((0 : Nat) : Int))) && ((clash (items.map of) ((items.set ((((which).toNat) % items.length)) s).map of)).2.2)) && (!decide ((((clash (items.map of) ((items.set ((((which).toNat) % items.length)) s).map of)).1.1, (clash (items.map of) ((items.set ((((which).toNat) % items.length)) s).map of)).1.2) : Two) = (((clash (items.map of) ((items.set ((((which).toNat) % items.length)) s).map of)).2.1.1, (clash (items.map of) ((items.set ((((which).toNat) % items.length)) s).map of)).2.1.2) : Two)))) (Pr.ex (Dg.val ((clash (items.map of) ((items.set ((((which).toNat) % items.length)) s).map of)).1.2)))), (98, Pr.ifb (((decide (((lost (items.set ((((which).toNat) % items.length)) s) (⟨((items.length : Nat) : Int), root (items.map of)⟩ : Head) : Nat) : Int) = ((0 : Nat) : Int))) && ((clash (items.map of) ((items.set ((((which).toNat) % items.length)) s).map of)).2.2)) && (!decide ((((clash (items.map of) ((items.set ((((which).toNat) % items.length)) s).map of)).1.1, (clash (items.map of) ((items.set ((((which).toNat) % items.length)) s).map of)).1.2) : Two) = (((clash (items.map of) ((items.set ((((which).toNat) % items.length)) s).map of)).2.1.1, (clash (items.map of) ((items.set ((((which).toNat) % items.length)) s).map of)).2.1.2) : Two)))) (Pr.ex (Dg.val (pair ((clash (items.map of) ((items.set ((((which).toNat) % items.length)) s).map of)).1.1) ((clash (items.map of) ((items.set ((((which).toNat) % items.length)) s).map of)).1.2))))), (99, Pr.ifb (((decide (((lost (items.set ((((which).toNat) % items.length)) s) (⟨((items.length : Nat) : Int), root (items.map of)⟩ : Head) : Nat) : Int) = ((0 : Nat) : Int))) && ((clash (items.map of) ((items.set ((((which).toNat) % items.length)) s).map of)).2.2)) && (!decide ((((clash (items.map of) ((items.set ((((which).toNat) % items.length)) s).map of)).1.1, (clash (items.map of) ((items.set ((((which).toNat) % items.length)) s).map of)).1.2) : Two) = (((clash (items.map of) ((items.set ((((which).toNat) % items.length)) s).map of)).2.1.1, (clash (items.map of) ((items.set ((((which).toNat) % items.length)) s).map of)).2.1.2) : Two)))) (Pr.ex (Value.pointer (some ⟨b14, 0, none⟩)))), (100, Pr.ifb (((decide (((lost (items.set ((((which).toNat) % items.length)) s) (⟨((items.length : Nat) : Int), root (items.map of)⟩ : Head) : Nat) : Int) = ((0 : Nat) : Int))) && ((clash (items.map of) ((items.set ((((which).toNat) % items.length)) s).map of)).2.2)) && (!decide ((((clash (items.map of) ((items.set ((((which).toNat) % items.length)) s).map of)).1.1, (clash (items.map of) ((items.set ((((which).toNat) % items.length)) s).map of)).1.2) : Two) = (((clash (items.map of) ((items.set ((((which).toNat) % items.length)) s).map of)).2.1.1, (clash (items.map of) ((items.set ((((which).toNat) % items.length)) s).map of)).2.1.2) : Two)))) (Pr.ex (Dg.val ((clash (items.map of) ((items.set ((((which).toNat) % items.length)) s).map of)).2.1.1)))), (101, Pr.ifb (((decide (((lost (items.set ((((which).toNat) % items.length)) s) (⟨((items.length : Nat) : Int), root (items.map of)⟩ : Head) : Nat) : Int) = ((0 : Nat) : Int))) && ((clash (items.map of) ((items.set ((((which).toNat) % items.length)) s).map of)).2.2)) && (!decide ((((clash (items.map of) ((items.set ((((which).toNat) % items.length)) s).map of)).1.1, (clash (items.map of) ((items.set ((((which).toNat) % items.length)) s).map of)).1.2) : Two) = (((clash (items.map of) ((items.set ((((which).toNat) % items.length)) s).map of)).2.1.1, (clash (items.map of) ((items.set ((((which).toNat) % items.length)) s).map of)).2.1.2) : Two)))) (Pr.ex (Value.pointer (some ⟨b14, 4, none⟩)))), (102, Pr.ifb (((decide (((lost (items.set ((((which).toNat) % items.length)) s) (⟨((items.length : Nat) : Int), root (items.map of)⟩ : Head) : Nat) : Int) = ((0 : Nat) : Int))) && ((clash (items.map of) ((items.set ((((which).toNat) % items.length)) s).map of)).2.2)) && (!decide ((((clash (items.map of) ((items.set ((((which).toNat) % items.length)) s).map of)).1.1, (clash (items.map of) ((items.set ((((which).toNat) % items.length)) s).map of)).1.2) : Two) = (((clash (items.map of) ((items.set ((((which).toNat) % items.length)) s).map of)).2.1.1, (clash (items.map of) ((items.set ((((which).toNat) % items.length)) s).map of)).2.1.2) : Two)))) (Pr.ex (Dg.val ((clash (items.map of) ((items.set ((((which).toNat) % items.length)) s).map of)).2.1.2)))), (103, Pr.ifb (((decide (((lost (items.set ((((which).toNat) % items.length)) s) (⟨((items.length : Nat) : Int), root (items.map of)⟩ : Head) : Nat) : Int) = ((0 : Nat) : Int))) && ((clash (items.map of) ((items.set ((((which).toNat) % items.length)) s).map of)).2.2)) && (!decide ((((clash (items.map of) ((items.set ((((which).toNat) % items.length)) s).map of)).1.1, (clash (items.map of) ((items.set ((((which).toNat) % items.length)) s).map of)).1.2) : Two) = (((clash (items.map of) ((items.set ((((which).toNat) % items.length)) s).map of)).2.1.1, (clash (items.map of) ((items.set ((((which).toNat) % items.length)) s).map of)).2.1.2) : Two)))) (Pr.ex (Dg.val (pair ((clash (items.map of) ((items.set ((((which).toNat) % items.length)) s).map of)).2.1.1) ((clash (items.map of) ((items.set ((((which).toNat) % items.length)) s).map of)).2.1.2))))), (104, Pr.ifb (((decide (((lost (items.set ((((which).toNat) % items.length)) s) (⟨((items.length : Nat) : Int), root (items.map of)⟩ : Head) : Nat) : Int) = ((0 : Nat) : Int))) && ((clash (items.map of) ((items.set ((((which).toNat) % items.length)) s).map of)).2.2)) && (!decide ((((clash (items.map of) ((items.set ((((which).toNat) % items.length)) s).map of)).1.1, (clash (items.map of) ((items.set ((((which).toNat) % items.length)) s).map of)).1.2) : Two) = (((clash (items.map of) ((items.set ((((which).toNat) % items.length)) s).map of)).2.1.1, (clash (items.map of) ((items.set ((((which).toNat) % items.length)) s).map of)).2.1.2) : Two)))) (Pr.ex (Value.bool (decide (pair ((clash (items.map of) ((items.set ((((which).toNat) % items.length)) s).map of)).1.1) ((clash (items.map of) ((items.set ((((which).toNat) % items.length)) s).map of)).1.2) = pair ((clash (items.map of) ((items.set ((((which).toNat) % items.length)) s).map of)).2.1.1) ((clash (items.map of) ((items.set ((((which).toNat) % items.length)) s).map of)).2.1.2)))))), (105, Pr.ex (Value.bool ((((decide (((lost (items.set ((((which).toNat) % items.length)) s) (⟨((items.length : Nat) : Int), root (items.map of)⟩ : Head) : Nat) : Int) = ((0 : Nat) : Int))) && ((clash (items.map of) ((items.set ((((which).toNat) % items.length)) s).map of)).2.2)) && (!decide ((((clash (items.map of) ((items.set ((((which).toNat) % items.length)) s).map of)).1.1, (clash (items.map of) ((items.set ((((which).toNat) % items.length)) s).map of)).1.2) : Two) = (((clash (items.map of) ((items.set ((((which).toNat) % items.length)) s).map of)).2.1.1, (clash (items.map of) ((items.set ((((which).toNat) % items.length)) s).map of)).2.1.2) : Two)))) && (decide (pair ((clash (items.map of) ((items.set ((((which).toNat) % items.length)) s).map of)).1.1) ((clash (items.map of) ((items.set ((((which).toNat) % items.length)) s).map of)).1.2) = pair ((clash (items.map of) ((items.set ((((which).toNat) % items.length)) s).map of)).2.1.1) ((clash (items.map of) ((items.set ((((which).toNat) % items.length)) s).map of)).2.1.2)))))), (6, Pr.ex (Value.bool ((((decide (((lost (items.set ((((which).toNat) % items.length)) s) (⟨((items.length : Nat) : Int), root (items.map of)⟩ : Head) : Nat) : Int) = ((0 : Nat) : Int))) && ((clash (items.map of) ((items.set ((((which).toNat) % items.length)) s).map of)).2.2)) && (!decide ((((clash (items.map of) ((items.set ((((which).toNat) % items.length)) s).map of)).1.1, (clash (items.map of) ((items.set ((((which).toNat) % items.length)) s).map of)).1.2) : Two) = (((clash (items.map of) ((items.set ((((which).toNat) % items.length)) s).map of)).2.1.1, (clash (items.map of) ((items.set ((((which).toNat) % items.length)) s).map of)).2.1.2) : Two)))) && (decide (pair ((clash (items.map of) ((items.set ((((which).toNat) % items.length)) s).map of)).1.1) ((clash (items.map of) ((items.set ((((which).toNat) % items.length)) s).map of)).1.2) = pair ((clash (items.map of) ((items.set ((((which).toNat) % items.length)) s).map of)).2.1.1) ((clash (items.map of) ((items.set ((((which).toNat) % items.length)) s).map of)).2.1.2))))))] 24 mixed hN_26 hD_26 (by kernel_rfl) (by kernel_rfl) (by kernel_rfl) ?_ ?_
  · refine Asks.cons ?_ (Asks.cons ?_ (Asks.cons ?_ (Asks.cons ?_ (Asks.cons ?_ (Asks.cons ?_ (Asks.cons ?_ (Asks.cons ?_ (Asks.cons ?_ (Asks.cons ?_ (Asks.cons ?_ (Asks.cons ?_ (Asks.cons ?_ (Asks.cons ?_ (Asks.cons ?_ (Asks.cons ?_ (Asks.cons ?_ (Asks.cons ?_ (Asks.cons ?_ (Asks.cons ?_ (Asks.cons ?_ (Asks.cons ?_ (Asks.cons ?_ (Asks.cons ?_ (Asks.zero _))))))))))))))))))))))))
    · refine Ask.plain rfl rfl ?_
      intro aq wq hNq hO hR hT
      replace hR := (Ext.drew _).trans hR
      exact does_move (V := i64 ((lost (items.set ((((which).toNat) % items.length)) s) (⟨((items.length : Nat) : Int), root (items.map of)⟩ : Head) : Nat) : Int)) ((hO 10 rfl).trans s10_26) ⟨Ext.refl _, rfl⟩
    · refine Ask.plain rfl rfl ?_
      intro aq wq hNq hO hR hT
      replace hR := (Ext.drew _).trans hR
      exact does_eql (a := ((lost (items.set ((((which).toNat) % items.length)) s) (⟨((items.length : Nat) : Int), root (items.map of)⟩ : Head) : Nat) : Int)) (b := ((0 : Nat) : Int)) (hT 83 rfl rfl) rfl ⟨Ext.refl _, rfl⟩
    · refine Ask.plain rfl rfl ?_
      intro aq wq hNq hO hR hT
      replace hR := (Ext.drew _).trans hR
      exact does_move (V := Value.bool (decide (((lost (items.set ((((which).toNat) % items.length)) s) (⟨((items.length : Nat) : Int), root (items.map of)⟩ : Head) : Nat) : Int) = ((0 : Nat) : Int)))) (hT 84 rfl rfl) ⟨Ext.refl _, rfl⟩
    · refine Ask.guarded (B := decide (((lost (items.set ((((which).toNat) % items.length)) s) (⟨((items.length : Nat) : Int), root (items.map of)⟩ : Head) : Nat) : Int) = ((0 : Nat) : Int))) (want := true) (t := 85) rfl rfl rfl rfl (by decide) (fun aq wq hO hR hT => hT 85 rfl rfl) (fun hG aq wq hNq hO hR hT => ?_) (fun hno _ hc => absurd hc hno)
      replace hR := (Ext.drew _).trans hR
      exact does_move (V := Value.bool ((clash (items.map of) ((items.set ((((which).toNat) % items.length)) s).map of)).2.2)) ((hO 15 rfl).trans s15_26) ⟨Ext.refl _, fun _ => rfl⟩
    · refine Ask.plain rfl rfl ?_
      intro aq wq hNq hO hR hT
      replace hR := (Ext.drew _).trans hR
      exact does_and (B := decide (((lost (items.set ((((which).toNat) % items.length)) s) (⟨((items.length : Nat) : Int), root (items.map of)⟩ : Head) : Nat) : Int) = ((0 : Nat) : Int))) (X := (clash (items.map of) ((items.set ((((which).toNat) % items.length)) s).map of)).2.2) (hT 85 rfl rfl) (fun hB => (hT 86 rfl rfl hB)) rfl ⟨Ext.refl _, rfl⟩
    · refine Ask.plain rfl rfl ?_
      intro aq wq hNq hO hR hT
      replace hR := (Ext.drew _).trans hR
      exact does_move (V := Value.bool ((decide (((lost (items.set ((((which).toNat) % items.length)) s) (⟨((items.length : Nat) : Int), root (items.map of)⟩ : Head) : Nat) : Int) = ((0 : Nat) : Int))) && ((clash (items.map of) ((items.set ((((which).toNat) % items.length)) s).map of)).2.2))) (hT 87 rfl rfl) ⟨Ext.refl _, rfl⟩
    · refine Ask.guarded (B := (decide (((lost (items.set ((((which).toNat) % items.length)) s) (⟨((items.length : Nat) : Int), root (items.map of)⟩ : Head) : Nat) : Int) = ((0 : Nat) : Int))) && ((clash (items.map of) ((items.set ((((which).toNat) % items.length)) s).map of)).2.2)) (want := true) (t := 88) rfl rfl rfl rfl (by decide) (fun aq wq hO hR hT => hT 88 rfl rfl) (fun hG aq wq hNq hO hR hT => ?_) (fun hno _ hc => absurd hc hno)
      replace hR := (Ext.drew _).trans hR
      exact does_loadD (o := 0) (n := 8) (mid := [w32 ((clash (items.map of) ((items.set ((((which).toNat) % items.length)) s).map of)).1.1).a, w32 ((clash (items.map of) ((items.set ((((which).toNat) % items.length)) s).map of)).1.1).b, w32 ((clash (items.map of) ((items.set ((((which).toNat) % items.length)) s).map of)).1.1).c, w32 ((clash (items.map of) ((items.set ((((which).toNat) % items.length)) s).map of)).1.1).d, w32 ((clash (items.map of) ((items.set ((((which).toNat) % items.length)) s).map of)).1.2).a, w32 ((clash (items.map of) ((items.set ((((which).toNat) % items.length)) s).map of)).1.2).b, w32 ((clash (items.map of) ((items.set ((((which).toNat) % items.length)) s).map of)).1.2).c, w32 ((clash (items.map of) ((items.set ((((which).toNat) % items.length)) s).map of)).1.2).d]) ((hO 13 rfl).trans s13_26) (hbb13_25.ext' hR) rfl rfl (Nat.le_of_ble_eq_true rfl) row_44 rfl ⟨Ext.refl _, fun _ => rfl⟩
    · refine Ask.guarded (B := (decide (((lost (items.set ((((which).toNat) % items.length)) s) (⟨((items.length : Nat) : Int), root (items.map of)⟩ : Head) : Nat) : Int) = ((0 : Nat) : Int))) && ((clash (items.map of) ((items.set ((((which).toNat) % items.length)) s).map of)).2.2)) (want := true) (t := 88) rfl rfl rfl rfl (by decide) (fun aq wq hO hR hT => hT 88 rfl rfl) (fun hG aq wq hNq hO hR hT => ?_) (fun hno _ hc => absurd hc hno)
      replace hR := (Ext.drew _).trans hR
      exact does_loadD (o := 0) (n := 8) (mid := [w32 ((clash (items.map of) ((items.set ((((which).toNat) % items.length)) s).map of)).2.1.1).a, w32 ((clash (items.map of) ((items.set ((((which).toNat) % items.length)) s).map of)).2.1.1).b, w32 ((clash (items.map of) ((items.set ((((which).toNat) % items.length)) s).map of)).2.1.1).c, w32 ((clash (items.map of) ((items.set ((((which).toNat) % items.length)) s).map of)).2.1.1).d, w32 ((clash (items.map of) ((items.set ((((which).toNat) % items.length)) s).map of)).2.1.2).a, w32 ((clash (items.map of) ((items.set ((((which).toNat) % items.length)) s).map of)).2.1.2).b, w32 ((clash (items.map of) ((items.set ((((which).toNat) % items.length)) s).map of)).2.1.2).c, w32 ((clash (items.map of) ((items.set ((((which).toNat) % items.length)) s).map of)).2.1.2).d]) ((hO 14 rfl).trans s14_26) (hbb14_25.ext' hR) rfl rfl (Nat.le_of_ble_eq_true rfl) row_44 rfl ⟨Ext.refl _, fun _ => rfl⟩
    · refine Ask.guarded (B := (decide (((lost (items.set ((((which).toNat) % items.length)) s) (⟨((items.length : Nat) : Int), root (items.map of)⟩ : Head) : Nat) : Int) = ((0 : Nat) : Int))) && ((clash (items.map of) ((items.set ((((which).toNat) % items.length)) s).map of)).2.2)) (want := true) (t := 88) rfl rfl rfl rfl (by decide) (fun aq wq hO hR hT => hT 88 rfl rfl) (fun hG aq wq hNq hO hR hT => ?_) (fun hno _ hc => absurd hc hno)
      replace hR := (Ext.drew _).trans hR
      exact does_neT (a := (((clash (items.map of) ((items.set ((((which).toNat) % items.length)) s).map of)).1.1, (clash (items.map of) ((items.set ((((which).toNat) % items.length)) s).map of)).1.2) : Two)) (b := (((clash (items.map of) ((items.set ((((which).toNat) % items.length)) s).map of)).2.1.1, (clash (items.map of) ((items.set ((((which).toNat) % items.length)) s).map of)).2.1.2) : Two)) eq_44 (hT 89 rfl rfl (hG)) (hT 90 rfl rfl (hG)) ⟨Ext.refl _, fun _ => rfl⟩
    · refine Ask.plain rfl rfl ?_
      intro aq wq hNq hO hR hT
      replace hR := (Ext.drew _).trans hR
      exact does_and (B := (decide (((lost (items.set ((((which).toNat) % items.length)) s) (⟨((items.length : Nat) : Int), root (items.map of)⟩ : Head) : Nat) : Int) = ((0 : Nat) : Int))) && ((clash (items.map of) ((items.set ((((which).toNat) % items.length)) s).map of)).2.2)) (X := !decide ((((clash (items.map of) ((items.set ((((which).toNat) % items.length)) s).map of)).1.1, (clash (items.map of) ((items.set ((((which).toNat) % items.length)) s).map of)).1.2) : Two) = (((clash (items.map of) ((items.set ((((which).toNat) % items.length)) s).map of)).2.1.1, (clash (items.map of) ((items.set ((((which).toNat) % items.length)) s).map of)).2.1.2) : Two))) (hT 88 rfl rfl) (fun hB => (hT 91 rfl rfl hB)) rfl ⟨Ext.refl _, rfl⟩
    · refine Ask.plain rfl rfl ?_
      intro aq wq hNq hO hR hT
      replace hR := (Ext.drew _).trans hR
      exact does_move (V := Value.bool (((decide (((lost (items.set ((((which).toNat) % items.length)) s) (⟨((items.length : Nat) : Int), root (items.map of)⟩ : Head) : Nat) : Int) = ((0 : Nat) : Int))) && ((clash (items.map of) ((items.set ((((which).toNat) % items.length)) s).map of)).2.2)) && (!decide ((((clash (items.map of) ((items.set ((((which).toNat) % items.length)) s).map of)).1.1, (clash (items.map of) ((items.set ((((which).toNat) % items.length)) s).map of)).1.2) : Two) = (((clash (items.map of) ((items.set ((((which).toNat) % items.length)) s).map of)).2.1.1, (clash (items.map of) ((items.set ((((which).toNat) % items.length)) s).map of)).2.1.2) : Two))))) (hT 92 rfl rfl) ⟨Ext.refl _, rfl⟩
    · refine Ask.guarded (B := ((decide (((lost (items.set ((((which).toNat) % items.length)) s) (⟨((items.length : Nat) : Int), root (items.map of)⟩ : Head) : Nat) : Int) = ((0 : Nat) : Int))) && ((clash (items.map of) ((items.set ((((which).toNat) % items.length)) s).map of)).2.2)) && (!decide ((((clash (items.map of) ((items.set ((((which).toNat) % items.length)) s).map of)).1.1, (clash (items.map of) ((items.set ((((which).toNat) % items.length)) s).map of)).1.2) : Two) = (((clash (items.map of) ((items.set ((((which).toNat) % items.length)) s).map of)).2.1.1, (clash (items.map of) ((items.set ((((which).toNat) % items.length)) s).map of)).2.1.2) : Two)))) (want := true) (t := 93) rfl rfl rfl rfl (by decide) (fun aq wq hO hR hT => hT 93 rfl rfl) (fun hG aq wq hNq hO hR hT => ?_) (fun hno _ hc => absurd hc hno)
      replace hR := (Ext.drew _).trans hR
      exact does_indexArr (k := .i64) (i := 0) (o' := 0) arr_44 ((hO 13 rfl).trans s13_26) rfl (by decide) (by decide) rfl ⟨Ext.refl _, fun _ => rfl⟩
    · refine Ask.guarded (B := ((decide (((lost (items.set ((((which).toNat) % items.length)) s) (⟨((items.length : Nat) : Int), root (items.map of)⟩ : Head) : Nat) : Int) = ((0 : Nat) : Int))) && ((clash (items.map of) ((items.set ((((which).toNat) % items.length)) s).map of)).2.2)) && (!decide ((((clash (items.map of) ((items.set ((((which).toNat) % items.length)) s).map of)).1.1, (clash (items.map of) ((items.set ((((which).toNat) % items.length)) s).map of)).1.2) : Two) = (((clash (items.map of) ((items.set ((((which).toNat) % items.length)) s).map of)).2.1.1, (clash (items.map of) ((items.set ((((which).toNat) % items.length)) s).map of)).2.1.2) : Two)))) (want := true) (t := 93) rfl rfl rfl rfl (by decide) (fun aq wq hO hR hT => hT 93 rfl rfl) (fun hG aq wq hNq hO hR hT => ?_) (fun hno _ hc => absurd hc hno)
      replace hR := (Ext.drew _).trans hR
      exact does_loadD (o := 0) (n := 4) (mid := [w32 ((clash (items.map of) ((items.set ((((which).toNat) % items.length)) s).map of)).1.1).a, w32 ((clash (items.map of) ((items.set ((((which).toNat) % items.length)) s).map of)).1.1).b, w32 ((clash (items.map of) ((items.set ((((which).toNat) % items.length)) s).map of)).1.1).c, w32 ((clash (items.map of) ((items.set ((((which).toNat) % items.length)) s).map of)).1.1).d]) (hT 94 rfl rfl (hG)) (hbb13_25.ext' hR) rfl rfl (Nat.le_of_ble_eq_true rfl) row_27 rfl ⟨Ext.refl _, fun _ => rfl⟩
    · refine Ask.guarded (B := ((decide (((lost (items.set ((((which).toNat) % items.length)) s) (⟨((items.length : Nat) : Int), root (items.map of)⟩ : Head) : Nat) : Int) = ((0 : Nat) : Int))) && ((clash (items.map of) ((items.set ((((which).toNat) % items.length)) s).map of)).2.2)) && (!decide ((((clash (items.map of) ((items.set ((((which).toNat) % items.length)) s).map of)).1.1, (clash (items.map of) ((items.set ((((which).toNat) % items.length)) s).map of)).1.2) : Two) = (((clash (items.map of) ((items.set ((((which).toNat) % items.length)) s).map of)).2.1.1, (clash (items.map of) ((items.set ((((which).toNat) % items.length)) s).map of)).2.1.2) : Two)))) (want := true) (t := 93) rfl rfl rfl rfl (by decide) (fun aq wq hO hR hT => hT 93 rfl rfl) (fun hG aq wq hNq hO hR hT => ?_) (fun hno _ hc => absurd hc hno)
      replace hR := (Ext.drew _).trans hR
      exact does_indexArr (k := .i64) (i := 1) (o' := 4) arr_44 ((hO 13 rfl).trans s13_26) rfl (by decide) (by decide) rfl ⟨Ext.refl _, fun _ => rfl⟩
    · refine Ask.guarded (B := ((decide (((lost (items.set ((((which).toNat) % items.length)) s) (⟨((items.length : Nat) : Int), root (items.map of)⟩ : Head) : Nat) : Int) = ((0 : Nat) : Int))) && ((clash (items.map of) ((items.set ((((which).toNat) % items.length)) s).map of)).2.2)) && (!decide ((((clash (items.map of) ((items.set ((((which).toNat) % items.length)) s).map of)).1.1, (clash (items.map of) ((items.set ((((which).toNat) % items.length)) s).map of)).1.2) : Two) = (((clash (items.map of) ((items.set ((((which).toNat) % items.length)) s).map of)).2.1.1, (clash (items.map of) ((items.set ((((which).toNat) % items.length)) s).map of)).2.1.2) : Two)))) (want := true) (t := 93) rfl rfl rfl rfl (by decide) (fun aq wq hO hR hT => hT 93 rfl rfl) (fun hG aq wq hNq hO hR hT => ?_) (fun hno _ hc => absurd hc hno)
      replace hR := (Ext.drew _).trans hR
      exact does_loadD (o := 4) (n := 4) (mid := [w32 ((clash (items.map of) ((items.set ((((which).toNat) % items.length)) s).map of)).1.2).a, w32 ((clash (items.map of) ((items.set ((((which).toNat) % items.length)) s).map of)).1.2).b, w32 ((clash (items.map of) ((items.set ((((which).toNat) % items.length)) s).map of)).1.2).c, w32 ((clash (items.map of) ((items.set ((((which).toNat) % items.length)) s).map of)).1.2).d]) (hT 96 rfl rfl (hG)) (hbb13_25.ext' hR) rfl rfl (Nat.le_of_ble_eq_true rfl) row_27 rfl ⟨Ext.refl _, fun _ => rfl⟩
    · refine Ask.guarded (B := ((decide (((lost (items.set ((((which).toNat) % items.length)) s) (⟨((items.length : Nat) : Int), root (items.map of)⟩ : Head) : Nat) : Int) = ((0 : Nat) : Int))) && ((clash (items.map of) ((items.set ((((which).toNat) % items.length)) s).map of)).2.2)) && (!decide ((((clash (items.map of) ((items.set ((((which).toNat) % items.length)) s).map of)).1.1, (clash (items.map of) ((items.set ((((which).toNat) % items.length)) s).map of)).1.2) : Two) = (((clash (items.map of) ((items.set ((((which).toNat) % items.length)) s).map of)).2.1.1, (clash (items.map of) ((items.set ((((which).toNat) % items.length)) s).map of)).2.1.2) : Two)))) (want := true) (t := 93) rfl rfl rfl rfl (by decide) (fun aq wq hO hR hT => hT 93 rfl rfl) (fun hG aq wq hNq hO hR hT => ?_) (fun hno _ hc => absurd hc hno)
      replace hR := (Ext.drew _).trans hR
      exact does_ret (vs := #[Dg.val ((clash (items.map of) ((items.set ((((which).toNat) % items.length)) s).map of)).1.1), Dg.val ((clash (items.map of) ((items.set ((((which).toNat) % items.length)) s).map of)).1.2)]) call_24 (args2 (hT 95 rfl rfl (hG)) (hT 97 rfl rfl (hG))) rfl ((pairR ((clash (items.map of) ((items.set ((((which).toNat) % items.length)) s).map of)).1.1) ((clash (items.map of) ((items.set ((((which).toNat) % items.length)) s).map of)).1.2) wq).mono fun v w2 h => ⟨h.2, fun _ => h.1⟩)
    · refine Ask.guarded (B := ((decide (((lost (items.set ((((which).toNat) % items.length)) s) (⟨((items.length : Nat) : Int), root (items.map of)⟩ : Head) : Nat) : Int) = ((0 : Nat) : Int))) && ((clash (items.map of) ((items.set ((((which).toNat) % items.length)) s).map of)).2.2)) && (!decide ((((clash (items.map of) ((items.set ((((which).toNat) % items.length)) s).map of)).1.1, (clash (items.map of) ((items.set ((((which).toNat) % items.length)) s).map of)).1.2) : Two) = (((clash (items.map of) ((items.set ((((which).toNat) % items.length)) s).map of)).2.1.1, (clash (items.map of) ((items.set ((((which).toNat) % items.length)) s).map of)).2.1.2) : Two)))) (want := true) (t := 93) rfl rfl rfl rfl (by decide) (fun aq wq hO hR hT => hT 93 rfl rfl) (fun hG aq wq hNq hO hR hT => ?_) (fun hno _ hc => absurd hc hno)
      replace hR := (Ext.drew _).trans hR
      exact does_indexArr (k := .i64) (i := 0) (o' := 0) arr_44 ((hO 14 rfl).trans s14_26) rfl (by decide) (by decide) rfl ⟨Ext.refl _, fun _ => rfl⟩
    · refine Ask.guarded (B := ((decide (((lost (items.set ((((which).toNat) % items.length)) s) (⟨((items.length : Nat) : Int), root (items.map of)⟩ : Head) : Nat) : Int) = ((0 : Nat) : Int))) && ((clash (items.map of) ((items.set ((((which).toNat) % items.length)) s).map of)).2.2)) && (!decide ((((clash (items.map of) ((items.set ((((which).toNat) % items.length)) s).map of)).1.1, (clash (items.map of) ((items.set ((((which).toNat) % items.length)) s).map of)).1.2) : Two) = (((clash (items.map of) ((items.set ((((which).toNat) % items.length)) s).map of)).2.1.1, (clash (items.map of) ((items.set ((((which).toNat) % items.length)) s).map of)).2.1.2) : Two)))) (want := true) (t := 93) rfl rfl rfl rfl (by decide) (fun aq wq hO hR hT => hT 93 rfl rfl) (fun hG aq wq hNq hO hR hT => ?_) (fun hno _ hc => absurd hc hno)
      replace hR := (Ext.drew _).trans hR
      exact does_loadD (o := 0) (n := 4) (mid := [w32 ((clash (items.map of) ((items.set ((((which).toNat) % items.length)) s).map of)).2.1.1).a, w32 ((clash (items.map of) ((items.set ((((which).toNat) % items.length)) s).map of)).2.1.1).b, w32 ((clash (items.map of) ((items.set ((((which).toNat) % items.length)) s).map of)).2.1.1).c, w32 ((clash (items.map of) ((items.set ((((which).toNat) % items.length)) s).map of)).2.1.1).d]) (hT 99 rfl rfl (hG)) (hbb14_25.ext' hR) rfl rfl (Nat.le_of_ble_eq_true rfl) row_27 rfl ⟨Ext.refl _, fun _ => rfl⟩
    · refine Ask.guarded (B := ((decide (((lost (items.set ((((which).toNat) % items.length)) s) (⟨((items.length : Nat) : Int), root (items.map of)⟩ : Head) : Nat) : Int) = ((0 : Nat) : Int))) && ((clash (items.map of) ((items.set ((((which).toNat) % items.length)) s).map of)).2.2)) && (!decide ((((clash (items.map of) ((items.set ((((which).toNat) % items.length)) s).map of)).1.1, (clash (items.map of) ((items.set ((((which).toNat) % items.length)) s).map of)).1.2) : Two) = (((clash (items.map of) ((items.set ((((which).toNat) % items.length)) s).map of)).2.1.1, (clash (items.map of) ((items.set ((((which).toNat) % items.length)) s).map of)).2.1.2) : Two)))) (want := true) (t := 93) rfl rfl rfl rfl (by decide) (fun aq wq hO hR hT => hT 93 rfl rfl) (fun hG aq wq hNq hO hR hT => ?_) (fun hno _ hc => absurd hc hno)
      replace hR := (Ext.drew _).trans hR
      exact does_indexArr (k := .i64) (i := 1) (o' := 4) arr_44 ((hO 14 rfl).trans s14_26) rfl (by decide) (by decide) rfl ⟨Ext.refl _, fun _ => rfl⟩
    · refine Ask.guarded (B := ((decide (((lost (items.set ((((which).toNat) % items.length)) s) (⟨((items.length : Nat) : Int), root (items.map of)⟩ : Head) : Nat) : Int) = ((0 : Nat) : Int))) && ((clash (items.map of) ((items.set ((((which).toNat) % items.length)) s).map of)).2.2)) && (!decide ((((clash (items.map of) ((items.set ((((which).toNat) % items.length)) s).map of)).1.1, (clash (items.map of) ((items.set ((((which).toNat) % items.length)) s).map of)).1.2) : Two) = (((clash (items.map of) ((items.set ((((which).toNat) % items.length)) s).map of)).2.1.1, (clash (items.map of) ((items.set ((((which).toNat) % items.length)) s).map of)).2.1.2) : Two)))) (want := true) (t := 93) rfl rfl rfl rfl (by decide) (fun aq wq hO hR hT => hT 93 rfl rfl) (fun hG aq wq hNq hO hR hT => ?_) (fun hno _ hc => absurd hc hno)
      replace hR := (Ext.drew _).trans hR
      exact does_loadD (o := 4) (n := 4) (mid := [w32 ((clash (items.map of) ((items.set ((((which).toNat) % items.length)) s).map of)).2.1.2).a, w32 ((clash (items.map of) ((items.set ((((which).toNat) % items.length)) s).map of)).2.1.2).b, w32 ((clash (items.map of) ((items.set ((((which).toNat) % items.length)) s).map of)).2.1.2).c, w32 ((clash (items.map of) ((items.set ((((which).toNat) % items.length)) s).map of)).2.1.2).d]) (hT 101 rfl rfl (hG)) (hbb14_25.ext' hR) rfl rfl (Nat.le_of_ble_eq_true rfl) row_27 rfl ⟨Ext.refl _, fun _ => rfl⟩
    · refine Ask.guarded (B := ((decide (((lost (items.set ((((which).toNat) % items.length)) s) (⟨((items.length : Nat) : Int), root (items.map of)⟩ : Head) : Nat) : Int) = ((0 : Nat) : Int))) && ((clash (items.map of) ((items.set ((((which).toNat) % items.length)) s).map of)).2.2)) && (!decide ((((clash (items.map of) ((items.set ((((which).toNat) % items.length)) s).map of)).1.1, (clash (items.map of) ((items.set ((((which).toNat) % items.length)) s).map of)).1.2) : Two) = (((clash (items.map of) ((items.set ((((which).toNat) % items.length)) s).map of)).2.1.1, (clash (items.map of) ((items.set ((((which).toNat) % items.length)) s).map of)).2.1.2) : Two)))) (want := true) (t := 93) rfl rfl rfl rfl (by decide) (fun aq wq hO hR hT => hT 93 rfl rfl) (fun hG aq wq hNq hO hR hT => ?_) (fun hno _ hc => absurd hc hno)
      replace hR := (Ext.drew _).trans hR
      exact does_ret (vs := #[Dg.val ((clash (items.map of) ((items.set ((((which).toNat) % items.length)) s).map of)).2.1.1), Dg.val ((clash (items.map of) ((items.set ((((which).toNat) % items.length)) s).map of)).2.1.2)]) call_24 (args2 (hT 100 rfl rfl (hG)) (hT 102 rfl rfl (hG))) rfl ((pairR ((clash (items.map of) ((items.set ((((which).toNat) % items.length)) s).map of)).2.1.1) ((clash (items.map of) ((items.set ((((which).toNat) % items.length)) s).map of)).2.1.2) wq).mono fun v w2 h => ⟨h.2, fun _ => h.1⟩)
    · refine Ask.guarded (B := ((decide (((lost (items.set ((((which).toNat) % items.length)) s) (⟨((items.length : Nat) : Int), root (items.map of)⟩ : Head) : Nat) : Int) = ((0 : Nat) : Int))) && ((clash (items.map of) ((items.set ((((which).toNat) % items.length)) s).map of)).2.2)) && (!decide ((((clash (items.map of) ((items.set ((((which).toNat) % items.length)) s).map of)).1.1, (clash (items.map of) ((items.set ((((which).toNat) % items.length)) s).map of)).1.2) : Two) = (((clash (items.map of) ((items.set ((((which).toNat) % items.length)) s).map of)).2.1.1, (clash (items.map of) ((items.set ((((which).toNat) % items.length)) s).map of)).2.1.2) : Two)))) (want := true) (t := 93) rfl rfl rfl rfl (by decide) (fun aq wq hO hR hT => hT 93 rfl rfl) (fun hG aq wq hNq hO hR hT => ?_) (fun hno _ hc => absurd hc hno)
      replace hR := (Ext.drew _).trans hR
      exact does_eqT (a := pair ((clash (items.map of) ((items.set ((((which).toNat) % items.length)) s).map of)).1.1) ((clash (items.map of) ((items.set ((((which).toNat) % items.length)) s).map of)).1.2)) (b := pair ((clash (items.map of) ((items.set ((((which).toNat) % items.length)) s).map of)).2.1.1) ((clash (items.map of) ((items.set ((((which).toNat) % items.length)) s).map of)).2.1.2)) eq_27 (hT 98 rfl rfl (hG)) (hT 103 rfl rfl (hG)) ⟨Ext.refl _, fun _ => rfl⟩
    · refine Ask.plain rfl rfl ?_
      intro aq wq hNq hO hR hT
      replace hR := (Ext.drew _).trans hR
      exact does_and (B := ((decide (((lost (items.set ((((which).toNat) % items.length)) s) (⟨((items.length : Nat) : Int), root (items.map of)⟩ : Head) : Nat) : Int) = ((0 : Nat) : Int))) && ((clash (items.map of) ((items.set ((((which).toNat) % items.length)) s).map of)).2.2)) && (!decide ((((clash (items.map of) ((items.set ((((which).toNat) % items.length)) s).map of)).1.1, (clash (items.map of) ((items.set ((((which).toNat) % items.length)) s).map of)).1.2) : Two) = (((clash (items.map of) ((items.set ((((which).toNat) % items.length)) s).map of)).2.1.1, (clash (items.map of) ((items.set ((((which).toNat) % items.length)) s).map of)).2.1.2) : Two)))) (X := decide (pair ((clash (items.map of) ((items.set ((((which).toNat) % items.length)) s).map of)).1.1) ((clash (items.map of) ((items.set ((((which).toNat) % items.length)) s).map of)).1.2) = pair ((clash (items.map of) ((items.set ((((which).toNat) % items.length)) s).map of)).2.1.1) ((clash (items.map of) ((items.set ((((which).toNat) % items.length)) s).map of)).2.1.2))) (hT 93 rfl rfl) (fun hB => (hT 104 rfl rfl hB)) rfl ⟨Ext.refl _, rfl⟩
    · refine Ask.plain rfl rfl ?_
      intro aq wq hNq hO hR hT
      replace hR := (Ext.drew _).trans hR
      exact does_assign (V := Value.bool ((((decide (((lost (items.set ((((which).toNat) % items.length)) s) (⟨((items.length : Nat) : Int), root (items.map of)⟩ : Head) : Nat) : Int) = ((0 : Nat) : Int))) && ((clash (items.map of) ((items.set ((((which).toNat) % items.length)) s).map of)).2.2)) && (!decide ((((clash (items.map of) ((items.set ((((which).toNat) % items.length)) s).map of)).1.1, (clash (items.map of) ((items.set ((((which).toNat) % items.length)) s).map of)).1.2) : Two) = (((clash (items.map of) ((items.set ((((which).toNat) % items.length)) s).map of)).2.1.1, (clash (items.map of) ((items.set ((((which).toNat) % items.length)) s).map of)).2.1.2) : Two)))) && (decide (pair ((clash (items.map of) ((items.set ((((which).toNat) % items.length)) s).map of)).1.1) ((clash (items.map of) ((items.set ((((which).toNat) % items.length)) s).map of)).1.2) = pair ((clash (items.map of) ((items.set ((((which).toNat) % items.length)) s).map of)).2.1.1) ((clash (items.map of) ((items.set ((((which).toNat) % items.length)) s).map of)).2.1.2))))) (hT 105 rfl rfl) ⟨Ext.refl _, rfl⟩
  intro a27 wd27 hN_27 hD_27 hO hR hA hU
  obtain ⟨_, _, _, _, _, _, _, _, _, _, _, _, _, _, _, _, _, _, _, _, _, _, _, t6, _⟩ := hA
  have hE_27 := hE_25.trans hR
  have hbb3_27 := hbb3_25.ext' hR
  have hbb7_27 := hbb7_25.ext' hR
  have hbb9_27 := hbb9_25.ext' hR
  have hbb13_27 := hbb13_25.ext' hR
  have hbb14_27 := hbb14_25.ext' hR
  have hsx1_27 := hsx1_25.ext' hR
  have hsx43_27 := hsx43_25.ext' hR
  have hsx11_27 := hsx11_25.ext' hR
  have hsx12_27 := hsx12_25.ext' hR
  have hox43_27 := hox43_25.ext' hR
  have hox11_27 := hox11_25.ext' hR
  have hox12_27 := hox12_25.ext' hR
  have s6_27 : get a27 6 = Value.bool ((((decide (((lost (items.set ((((which).toNat) % items.length)) s) (⟨((items.length : Nat) : Int), root (items.map of)⟩ : Head) : Nat) : Int) = ((0 : Nat) : Int))) && ((clash (items.map of) ((items.set ((((which).toNat) % items.length)) s).map of)).2.2)) && (!decide ((((clash (items.map of) ((items.set ((((which).toNat) % items.length)) s).map of)).1.1, (clash (items.map of) ((items.set ((((which).toNat) % items.length)) s).map of)).1.2) : Two) = (((clash (items.map of) ((items.set ((((which).toNat) % items.length)) s).map of)).2.1.1, (clash (items.map of) ((items.set ((((which).toNat) % items.length)) s).map of)).2.1.2) : Two)))) && (decide (pair ((clash (items.map of) ((items.set ((((which).toNat) % items.length)) s).map of)).1.1) ((clash (items.map of) ((items.set ((((which).toNat) % items.length)) s).map of)).1.2) = pair ((clash (items.map of) ((items.set ((((which).toNat) % items.length)) s).map of)).2.1.1) ((clash (items.map of) ((items.set ((((which).toNat) % items.length)) s).map of)).2.1.2)))) := t6
  clear hE_25 hN_26 hD_26 s10_26 s13_26 s14_26 s15_26 hbb3_25 hbb7_25 hbb9_25 hbb13_25 hbb14_25 hsx1_25 hsx43_25 hsx11_25 hsx12_25 hox43_25 hox11_25 hox12_25
  refine tail_nil ?_
  refine wp_ret ?_
  refine res_one (V := Value.bool ((((decide (((lost (items.set ((((which).toNat) % items.length)) s) (⟨((items.length : Nat) : Int), root (items.map of)⟩ : Head) : Nat) : Int) = ((0 : Nat) : Int))) && ((clash (items.map of) ((items.set ((((which).toNat) % items.length)) s).map of)).2.2)) && (!decide ((((clash (items.map of) ((items.set ((((which).toNat) % items.length)) s).map of)).1.1, (clash (items.map of) ((items.set ((((which).toNat) % items.length)) s).map of)).1.2) : Two) = (((clash (items.map of) ((items.set ((((which).toNat) % items.length)) s).map of)).2.1.1, (clash (items.map of) ((items.set ((((which).toNat) % items.length)) s).map of)).2.1.2) : Two)))) && (decide (pair ((clash (items.map of) ((items.set ((((which).toNat) % items.length)) s).map of)).1.1) ((clash (items.map of) ((items.set ((((which).toNat) % items.length)) s).map of)).1.2) = pair ((clash (items.map of) ((items.set ((((which).toNat) % items.length)) s).map of)).2.1.1) ((clash (items.map of) ((items.set ((((which).toNat) % items.length)) s).map of)).2.1.2))))) rfl hD_27 s6_27 ?_
  exact ⟨congrArg Value.bool (other_law hc2 hc3), hE_27⟩

end Go.Proofs.YtijfjpbahepegaaDoor
