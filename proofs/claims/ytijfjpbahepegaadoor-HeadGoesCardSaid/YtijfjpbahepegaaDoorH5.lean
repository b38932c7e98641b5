/- The walks of functions of the program: printed. -/
import Derived.Test.YtijfjpbahepegaaDoorK18
import Derived.Test.YtijfjpbahepegaaDoorG3
import Derived.Test.YtijfjpbahepegaaDoorG8
import Derived.Test.YtijfjpbahepegaaDoorG9
import Derived.Test.YtijfjpbahepegaaDoorG12
import Derived.Test.YtijfjpbahepegaaDoorG26
import Derived.Test.YtijfjpbahepegaaDoorF0
set_option maxRecDepth 100000
namespace Go.Proofs.YtijfjpbahepegaaDoor
open Go Go.RowKit Sk Sd
theorem call_12 : Callable Tryd.prog 12 := ⟨_, Tryd.func12, by kernel_rfl, rfl⟩
theorem call_13 : Callable Tryd.prog 13 := ⟨_, Tryd.func13, by kernel_rfl, rfl⟩
theorem call_27 : Callable Tryd.prog 27 := ⟨_, Tryd.func27, by kernel_rfl, rfl⟩
theorem call_25 : Callable Tryd.prog 25 := ⟨_, Tryd.func25, by kernel_rfl, rfl⟩
theorem headGoes (items : List (List UInt8)) (x1 : Value) (cut : UInt8) (w0 : World) (hL : Laid w0) (hx1 : SlT Str 0 0 items x1 w0) :
    Gives Tryd.prog 8 #[Value.agg #[x1], w8 (cut)] w0 (Pr.ex (Value.bool true)) := by
  refine enter (N := 48) Tryd.func8 rfl rfl ?_
  intro a0 hN_0 hD_0 hA
  have s0_0 : get a0 0 = Value.agg #[x1] := hA 0 _ rfl
  have s1_0 : get a0 1 = w8 (cut) := hA 1 _ rfl
  clear hA
  have hE_0 : Ext w0 w0 := Ext.refl w0
  have hsx1_0 := hx1.close
  refine wp_seq ?_
  refine region_lex [2] [(2, Pr.box' w0.heap.size 24 [x1]), (4, Pr.ex (Value.bool (false)))] 2 hN_0 hD_0 (by kernel_rfl) (by kernel_rfl) ?_ ?_
  · refine Asks.cons ?_ (Asks.cons ?_ (Asks.zero _))
    · refine Ask.fresh rfl rfl ?_
      intro aq wq hNq hO hR hT
      exact does_box (V := Value.agg #[x1]) ((hO 0 rfl).trans s0_0) (fun b w2 he hlo hb => ⟨he, ⟨b, rfl, Nat.le_trans hR.size' hlo, hb⟩, ⟨b, rfl, hlo, hb.lt⟩⟩)
    · refine Ask.plain rfl rfl ?_
      intro aq wq hNq hO hR hT
      exact does_assign (V := Value.bool (false)) rfl ⟨Ext.refl _, rfl⟩
  intro a1 wd1 hN_1 hD_1 hO hR hA hU
  obtain ⟨t2, _, _⟩ := hA
  have hE_1 := hE_0.trans hR
  have s1_1 := (hO 1 rfl).trans s1_0
  have hsx1_1 := hsx1_0.ext' hR
  obtain ⟨b2, s2_1, lo_b2, hbb2_1⟩ := t2
  have nb_x1_b2 := SlT.old hsx1_0 lo_b2
  have fr_b2 : w0.heap.size ≤ b2 := Nat.le_trans hE_0.size' lo_b2
  clear hE_0 hN_0 hD_0 s0_0 s1_0 hsx1_0
  refine tail_nil ?_
  refine wp_seq ?_
  refine wp_seq ?_
  refine region_lex [] [(8, Pr.ex (Value.bool (true))), (9, Pr.ex (Value.bool (false)))] 2 hN_1 hD_1 (by kernel_rfl) (by kernel_rfl) ?_ ?_
  · refine Asks.cons ?_ (Asks.cons ?_ (Asks.zero _))
    · refine Ask.plain rfl rfl ?_
      intro aq wq hNq hO hR hT
      exact does_ret (vs := #[]) call_12 args0 rfl ((alive43 wq (hL.ext (hE_1.trans hR))).mono fun v w2 h => ⟨h.2, h.1⟩)
    · refine Ask.plain rfl rfl ?_
      intro aq wq hNq hO hR hT
      exact does_not (B := true) (hT 8 rfl rfl) ⟨Ext.refl _, rfl⟩
  intro a2 wd2 hN_2 hD_2 hO hR hA hU
  obtain ⟨_, t9, _⟩ := hA
  have hE_2 := hE_1.trans hR
  have s1_2 := (hO 1 rfl).trans s1_1
  have s2_2 := (hO 2 rfl).trans s2_1
  have hbb2_2 := hbb2_1.ext' hR
  have hsx1_2 := hsx1_1.ext' hR
  have s9_2 : get a2 9 = Value.bool (false) := t9
  clear hE_1 hN_1 hD_1 s1_1 s2_1 hbb2_1 hsx1_1
  refine tail_nil ?_
  refine wp_ifF s9_2 ?_
  refine wp_skip ?_
  refine wp_seq ?_
  refine wp_seq ?_
  refine region_lex [] [(10, Pr.ex (Value.agg #[x1])), (11, Pr.ex (Value.bool (few items 20 300 && right items))), (12, Pr.ex (Value.bool (!(few items 20 300 && right items)))), (13, Pr.ex (Value.bool (!(few items 20 300 && right items)))), (14, Pr.ifb (!(!(few items 20 300 && right items))) (Pr.ex (Value.pointer (some ⟨b2, 0, none⟩)))), (15, Pr.ifb (!(!(few items 20 300 && right items))) (Pr.ex (x1))), (16, Pr.ifb (!(!(few items 20 300 && right items))) (Pr.ex (i64 ((items.length : Nat) : Int)))), (17, Pr.ifb (!(!(few items 20 300 && right items))) (Pr.ex (Value.bool (decide (((items.length : Nat) : Int) = ((0 : Nat) : Int)))))), (18, Pr.ex (Value.bool ((!(few items 20 300 && right items)) || (decide (((items.length : Nat) : Int) = ((0 : Nat) : Int))))))] 9 hN_2 hD_2 (by kernel_rfl) (by kernel_rfl) ?_ ?_
  · refine Asks.cons ?_ (Asks.cons ?_ (Asks.cons ?_ (Asks.cons ?_ (Asks.cons ?_ (Asks.cons ?_ (Asks.cons ?_ (Asks.cons ?_ (Asks.cons ?_ (Asks.zero _)))))))))
    · refine Ask.plain rfl rfl ?_
      intro aq wq hNq hO hR hT
      exact does_loadD (o := 0) (n := 1) (mid := [x1]) ((hO 2 rfl).trans s2_2) (hbb2_2.ext' hR) rfl rfl (Nat.le_of_ble_eq_true rfl) row_24 rfl ⟨Ext.refl _, rfl⟩
    · refine Ask.plain rfl rfl ?_
      intro aq wq hNq hO hR hT
      exact does_ret (vs := #[Value.agg #[x1]]) call_13 (args1 (hT 10 rfl rfl)) rfl ((few43 (items) (x1) wq ((hsx1_2.ext' hR).wide (Nat.zero_le _) (.inl rfl))).mono fun v w2 h => ⟨h.2, h.1⟩)
    · refine Ask.plain rfl rfl ?_
      intro aq wq hNq hO hR hT
      exact does_not (B := few items 20 300 && right items) (hT 11 rfl rfl) ⟨Ext.refl _, rfl⟩
    · refine Ask.plain rfl rfl ?_
      intro aq wq hNq hO hR hT
      exact does_move (V := Value.bool (!(few items 20 300 && right items))) (hT 12 rfl rfl) ⟨Ext.refl _, rfl⟩
    · refine Ask.guarded (B := !(few items 20 300 && right items)) (want := false) (t := 13) rfl rfl rfl rfl (by decide) (fun aq wq hO hR hT => hT 13 rfl rfl) (fun hG aq wq hNq hO hR hT => ?_) (fun hno _ hc => absurd (bn hc) hno)
      replace hG := nb hG
      exact does_field (o' := 0) fld_24_0 ((hO 2 rfl).trans s2_2) rfl ⟨Ext.refl _, fun _ => rfl⟩
    · refine Ask.guarded (B := !(few items 20 300 && right items)) (want := false) (t := 13) rfl rfl rfl rfl (by decide) (fun aq wq hO hR hT => hT 13 rfl rfl) (fun hG aq wq hNq hO hR hT => ?_) (fun hno _ hc => absurd (bn hc) hno)
      replace hG := nb hG
      exact does_loadD1 (o := 0) (V := x1) (hT 14 rfl rfl (hG)) (hbb2_2.ext' hR) rfl one_22 ⟨Ext.refl _, fun _ => rfl⟩
    · refine Ask.guarded (B := !(few items 20 300 && right items)) (want := false) (t := 13) rfl rfl rfl rfl (by decide) (fun aq wq hO hR hT => hT 13 rfl rfl) (fun hG aq wq hNq hO hR hT => ?_) (fun hno _ hc => absurd (bn hc) hno)
      replace hG := nb hG
      exact does_len (T := Str) (xs := items) sli_22 (SlT.at (hT 15 rfl rfl (hG)) (hsx1_2.ext' hR)) ⟨Ext.refl _, fun _ => rfl⟩
    · refine Ask.guarded (B := !(few items 20 300 && right items)) (want := false) (t := 13) rfl rfl rfl rfl (by decide) (fun aq wq hO hR hT => hT 13 rfl rfl) (fun hG aq wq hNq hO hR hT => ?_) (fun hno _ hc => absurd (bn hc) hno)
      replace hG := nb hG
      exact does_eql (a := ((items.length : Nat) : Int)) (b := ((0 : Nat) : Int)) (hT 16 rfl rfl (hG)) rfl ⟨Ext.refl _, fun _ => rfl⟩
    · refine Ask.plain rfl rfl ?_
      intro aq wq hNq hO hR hT
      exact does_or (B := !(few items 20 300 && right items)) (X := decide (((items.length : Nat) : Int) = ((0 : Nat) : Int))) (hT 13 rfl rfl) rfl (fun hB => (hT 17 rfl rfl (nb hB))) ⟨Ext.refl _, rfl⟩
  intro a3 wd3 hN_3 hD_3 hO hR hA hU
  obtain ⟨_, _, _, _, _, _, _, _, t18, _⟩ := hA
  have hE_3 := hE_2.trans hR
  have s1_3 := (hO 1 rfl).trans s1_2
  have s2_3 := (hO 2 rfl).trans s2_2
  have hbb2_3 := hbb2_2.ext' hR
  have hsx1_3 := hsx1_2.ext' hR
  have s18_3 : get a3 18 = Value.bool ((!(few items 20 300 && right items)) || (decide (((items.length : Nat) : Int) = ((0 : Nat) : Int)))) := t18
  clear hE_2 hN_2 hD_2 s1_2 s2_2 s9_2 hbb2_2 hsx1_2
  refine tail_nil ?_
  refine wp_if (B := (!(few items 20 300 && right items)) || (decide (((items.length : Nat) : Int) = ((0 : Nat) : Int)))) s18_3 (fun hc0 => ?_) (fun hc0 => ?_)
  · -- T 0
    refine wp_seq ?_
    refine region_lex [] [(4, Pr.ex (Value.bool (true)))] 1 hN_3 hD_3 (by kernel_rfl) (by kernel_rfl) ?_ ?_
    · refine Asks.cons ?_ (Asks.zero _)
      · refine Ask.plain rfl rfl ?_
        intro aq wq hNq hO hR hT
        exact does_assign (V := Value.bool (true)) rfl ⟨Ext.refl _, rfl⟩
    intro a4 wd4 hN_4 hD_4 hO hR hA hU
    obtain ⟨t4, _⟩ := hA
    have hE_4 := hE_3.trans hR
    have hbb2_4 := hbb2_3.ext' hR
    have hsx1_4 := hsx1_3.ext' hR
    have s4_4 : get a4 4 = Value.bool (true) := t4
    clear hE_3 hN_3 hD_3 s1_3 s2_3 s18_3 hbb2_3 hsx1_3
    refine tail_nil ?_
    refine wp_ret ?_
    refine res_one (V := Value.bool (true)) rfl hD_4 s4_4 ?_
    exact ⟨rfl, hE_4⟩
  obtain ⟨hf1, hlen⟩ : (few items 20 300 && right items) = true ∧ ¬ items.length = 0 := by simpa using hc0
  have hf := Bool.and_eq_true_iff.1 hf1
  have hs := few_hs hf.1 (by decide)
  have hn := few_hn hf.1 (by decide)
  have hmost := (few_spec hf.1).1
  have hlt : cut.toNat % items.length < items.length := Nat.mod_lt _ (by omega)
  refine wp_skip ?_
  refine wp_seq ?_
  refine region_lex [] [(19, Pr.ex (w8 (cut))), (20, Pr.ex (i64 (((cut).toNat : Nat) : Int))), (21, Pr.ex (Value.pointer (some ⟨b2, 0, none⟩))), (22, Pr.ex (x1)), (23, Pr.ex (i64 ((items.length : Nat) : Int))), (24, Pr.ex (i64 ((((cut).toNat) % items.length : Nat) : Int))), (25, Pr.ex (i64 ((1 + (((cut).toNat) % items.length) : Nat) : Int))), (5, Pr.ex (i64 ((1 + (((cut).toNat) % items.length) : Nat) : Int)))] 8 hN_3 hD_3 (by kernel_rfl) (by kernel_rfl) ?_ ?_
  · refine Asks.cons ?_ (Asks.cons ?_ (Asks.cons ?_ (Asks.cons ?_ (Asks.cons ?_ (Asks.cons ?_ (Asks.cons ?_ (Asks.cons ?_ (Asks.zero _))))))))
    · refine Ask.plain rfl rfl ?_
      intro aq wq hNq hO hR hT
      exact does_move (V := w8 (cut)) ((hO 1 rfl).trans s1_3) ⟨Ext.refl _, rfl⟩
    · refine Ask.plain rfl rfl ?_
      intro aq wq hNq hO hR hT
      exact does_conv ⟨_, Tryd.underlying5⟩ Tryd.underlying3 (hT 19 rfl rfl) (conv_w_i8 _) ⟨Ext.refl _, rfl⟩
    · refine Ask.plain rfl rfl ?_
      intro aq wq hNq hO hR hT
      exact does_field (o' := 0) fld_24_0 ((hO 2 rfl).trans s2_3) rfl ⟨Ext.refl _, rfl⟩
    · refine Ask.plain rfl rfl ?_
      intro aq wq hNq hO hR hT
      exact does_loadD1 (o := 0) (V := x1) (hT 21 rfl rfl) (hbb2_3.ext' hR) rfl one_22 ⟨Ext.refl _, rfl⟩
    · refine Ask.plain rfl rfl ?_
      intro aq wq hNq hO hR hT
      exact does_len (T := Str) (xs := items) sli_22 (SlT.at (hT 22 rfl rfl) (hsx1_3.ext' hR)) ⟨Ext.refl _, rfl⟩
    · refine Ask.plain rfl rfl ?_
      intro aq wq hNq hO hR hT
      exact does_rem (k := .i64) (a := (((cut).toNat : Nat) : Int)) (b := ((items.length : Nat) : Int)) (r := ((((cut).toNat) % items.length : Nat) : Int)) (hT 20 rfl rfl) (hT 23 rfl rfl) (by omega) (by omega) (by omega) ⟨Ext.refl _, rfl⟩
    · refine Ask.plain rfl rfl ?_
      intro aq wq hNq hO hR hT
      exact does_add (a := ((1 : Nat) : Int)) (b := ((((cut).toNat) % items.length : Nat) : Int)) (r := ((1 + (((cut).toNat) % items.length) : Nat) : Int)) rfl (hT 24 rfl rfl) (by omega) (by omega) (by omega) ⟨Ext.refl _, rfl⟩
    · refine Ask.plain rfl rfl ?_
      intro aq wq hNq hO hR hT
      exact does_assign (V := i64 ((1 + (((cut).toNat) % items.length) : Nat) : Int)) (hT 25 rfl rfl) ⟨Ext.refl _, rfl⟩
  intro a5 wd5 hN_5 hD_5 hO hR hA hU
  obtain ⟨_, _, _, _, _, _, _, t5, _⟩ := hA
  have hE_5 := hE_3.trans hR
  have s2_5 := (hO 2 rfl).trans s2_3
  have hbb2_5 := hbb2_3.ext' hR
  have hsx1_5 := hsx1_3.ext' hR
  have s5_5 : get a5 5 = i64 ((1 + (((cut).toNat) % items.length) : Nat) : Int) := t5
  clear hE_3 hN_3 hD_3 s1_3 s2_3 s18_3 hbb2_3 hsx1_3
  refine tail_nil ?_
  refine wp_seq ?_
  refine region_lex [] [(27, Pr.ex (Value.agg #[x1])), (28, Pr.own' DG wd5.heap.size 27 (items.map of)), (29, Pr.ex (i64 ((1 + (((cut).toNat) % items.length) : Nat) : Int))), (30, Pr.t2 (Pr.own' DG wd5.heap.size 27 ((proveOn (items.map of) (((1 + (((cut).toNat) % items.length) : Nat) : Int))).1)) (Pr.ex (i64 (((proveOn (items.map of) (((1 + (((cut).toNat) % items.length) : Nat) : Int))).2 : Nat) : Int)))), (26, Pr.t2 (Pr.own' DG wd5.heap.size 27 ((proveOn (items.map of) (((1 + (((cut).toNat) % items.length) : Nat) : Int))).1)) (Pr.ex (i64 (((proveOn (items.map of) (((1 + (((cut).toNat) % items.length) : Nat) : Int))).2 : Nat) : Int)))), (31, Pr.own' DG wd5.heap.size 27 ((proveOn (items.map of) (((1 + (((cut).toNat) % items.length) : Nat) : Int))).1)), (32, Pr.ex (i64 (((proveOn (items.map of) (((1 + (((cut).toNat) % items.length) : Nat) : Int))).2 : Nat) : Int))), (6, Pr.own' DG wd5.heap.size 27 ((proveOn (items.map of) (((1 + (((cut).toNat) % items.length) : Nat) : Int))).1)), (7, Pr.ex (i64 (((proveOn (items.map of) (((1 + (((cut).toNat) % items.length) : Nat) : Int))).2 : Nat) : Int)))] 9 hN_5 hD_5 (by kernel_rfl) (by kernel_rfl) ?_ ?_
  · refine Asks.cons ?_ (Asks.cons ?_ (Asks.cons ?_ (Asks.cons ?_ (Asks.cons ?_ (Asks.cons ?_ (Asks.cons ?_ (Asks.cons ?_ (Asks.cons ?_ (Asks.zero _)))))))))
    · refine Ask.plain rfl rfl ?_
      intro aq wq hNq hO hR hT
      exact does_loadD (o := 0) (n := 1) (mid := [x1]) ((hO 2 rfl).trans s2_5) (hbb2_5.ext' hR) rfl rfl (Nat.le_of_ble_eq_true rfl) row_24 rfl ⟨Ext.refl _, rfl⟩
    · refine Ask.plain rfl rfl ?_
      intro aq wq hNq hO hR hT
      exact does_ret (vs := #[Value.agg #[x1]]) call_21 (args1 (hT 27 rfl rfl)) rfl ((digestsR (items) (x1) wq ((hsx1_5.ext' hR).wide (Nat.zero_le _) (.inl rfl)) hs hn).mono fun v w2 h => ⟨h.2, OwnT.base h.1 hR.size'⟩)
    · refine Ask.plain rfl rfl ?_
      intro aq wq hNq hO hR hT
      exact does_move (V := i64 ((1 + (((cut).toNat) % items.length) : Nat) : Int)) ((hO 5 rfl).trans s5_5) ⟨Ext.refl _, rfl⟩
    · refine Ask.plain rfl rfl ?_
      intro aq wq hNq hO hR hT
      exact does_ret (vs := #[get aq 28, i64 ((1 + (((cut).toNat) % items.length) : Nat) : Int)]) call_27 (args2 rfl (hT 29 rfl rfl)) rfl ((proveOn_ (items.map of) (((1 + (((cut).toNat) % items.length) : Nat) : Int)) (get aq 28) wq (hL.ext (hE_5.trans hR)) (((OwnT.sl (hT 28 rfl rfl)).wide (Nat.zero_le _) (.inl rfl)).wide (Nat.zero_le _) (.inl rfl)) (by rw [List.length_map]; omega)).mono fun v w2 h => ⟨h.2, by obtain ⟨x0, x1, hv, k0, k1⟩ := h.1; exact ⟨x0, x1, hv, OwnT.base k0 hR.size', k1⟩⟩)
    · refine Ask.plain rfl rfl ?_
      intro aq wq hNq hO hR hT
      exact does_move rfl ⟨Ext.refl _, (hT 30 rfl rfl)⟩
    · refine Ask.plain rfl rfl ?_
      intro aq wq hNq hO hR hT
      obtain ⟨x0, x1, hv, k0, k1⟩ := (hT 26 rfl rfl)
      exact does_extract hv rfl ⟨Ext.refl _, k0⟩
    · refine Ask.plain rfl rfl ?_
      intro aq wq hNq hO hR hT
      obtain ⟨x0, x1, hv, k0, k1⟩ := (hT 26 rfl rfl)
      exact does_extract (V := i64 (((proveOn (items.map of) (((1 + (((cut).toNat) % items.length) : Nat) : Int))).2 : Nat) : Int)) hv (by rw [show x1 = i64 (((proveOn (items.map of) (((1 + (((cut).toNat) % items.length) : Nat) : Int))).2 : Nat) : Int) from k1]; rfl) ⟨Ext.refl _, rfl⟩
    · refine Ask.plain rfl rfl ?_
      intro aq wq hNq hO hR hT
      exact does_assign rfl ⟨Ext.refl _, (hT 31 rfl rfl)⟩
    · refine Ask.plain rfl rfl ?_
      intro aq wq hNq hO hR hT
      exact does_assign (V := i64 (((proveOn (items.map of) (((1 + (((cut).toNat) % items.length) : Nat) : Int))).2 : Nat) : Int)) (hT 32 rfl rfl) ⟨Ext.refl _, rfl⟩
  intro a6 wd6 hN_6 hD_6 hO hR hA hU
  obtain ⟨_, _, _, _, _, _, _, t6, t7, _⟩ := hA
  have hE_6 := hE_5.trans hR
  have s2_6 := (hO 2 rfl).trans s2_5
  have s5_6 := (hO 5 rfl).trans s5_5
  have hbb2_6 := hbb2_5.ext' hR
  have hsx1_6 := hsx1_5.ext' hR
  obtain ⟨x6, s6_6⟩ : ∃ x, get a6 6 = x := ⟨_, rfl⟩
  replace t6 : OwnT DG wd5.heap.size 27 ((proveOn (items.map of) (((1 + (((cut).toNat) % items.length) : Nat) : Int))).1) x6 wd6 := by rw [← s6_6]; exact t6
  have nbo_x6_b2 : x6.ownBlock ≠ some b2 := fun e => Nat.lt_irrefl _ (Nat.lt_of_lt_of_le hbb2_5.lt (OwnT.block_lt t6 e).1)
  have hsx6_6 := t6.sl.wide (Nat.zero_le _) (.inl rfl)
  have hox6_6 := OwnT.base t6 hE_5.size'
  have s7_6 : get a6 7 = i64 (((proveOn (items.map of) (((1 + (((cut).toNat) % items.length) : Nat) : Int))).2 : Nat) : Int) := t7
  clear hE_5 hN_5 hD_5 s2_5 s5_5 hbb2_5 hsx1_5
  refine tail_nil ?_
  refine wp_seq ?_
  refine region_any [] [(33, Pr.ex (i64 (((proveOn (items.map of) (((1 + (((cut).toNat) % items.length) : Nat) : Int))).2 : Nat) : Int))), (34, Pr.ex (Value.bool (decide ((((proveOn (items.map of) (((1 + (((cut).toNat) % items.length) : Nat) : Int))).2 : Nat) : Int) = ((0 : Nat) : Int))))), (35, Pr.ex (Value.bool (decide ((((proveOn (items.map of) (((1 + (((cut).toNat) % items.length) : Nat) : Int))).2 : Nat) : Int) = ((0 : Nat) : Int))))), (36, Pr.ifb (decide ((((proveOn (items.map of) (((1 + (((cut).toNat) % items.length) : Nat) : Int))).2 : Nat) : Int) = ((0 : Nat) : Int))) (Pr.ex (Value.pointer (some ⟨b2, 0, none⟩)))), (37, Pr.ifb (decide ((((proveOn (items.map of) (((1 + (((cut).toNat) % items.length) : Nat) : Int))).2 : Nat) : Int) = ((0 : Nat) : Int))) (Pr.ex (x1))), (38, Pr.ifb (decide ((((proveOn (items.map of) (((1 + (((cut).toNat) % items.length) : Nat) : Int))).2 : Nat) : Int) = ((0 : Nat) : Int))) (Pr.ex (i64 ((1 + (((cut).toNat) % items.length) : Nat) : Int)))), (39, Pr.ifb (decide ((((proveOn (items.map of) (((1 + (((cut).toNat) % items.length) : Nat) : Int))).2 : Nat) : Int) = ((0 : Nat) : Int))) (Pr.ex (i64 ((1 + (((cut).toNat) % items.length) : Nat) : Int)))), (40, Pr.ifb (decide ((((proveOn (items.map of) (((1 + (((cut).toNat) % items.length) : Nat) : Int))).2 : Nat) : Int) = ((0 : Nat) : Int))) (Pr.sl' Str 0 (w0.heap.size + 1) (items.take (1 + (((cut).toNat) % items.length))))), (41, Pr.ifb (decide ((((proveOn (items.map of) (((1 + (((cut).toNat) % items.length) : Nat) : Int))).2 : Nat) : Int) = ((0 : Nat) : Int))) (Pr.ag (fun x => Value.agg #[x]) (Pr.sl' Str 0 (w0.heap.size + 1) (items.take (1 + (((cut).toNat) % items.length)))))), (42, Pr.ifb (decide ((((proveOn (items.map of) (((1 + (((cut).toNat) % items.length) : Nat) : Int))).2 : Nat) : Int) = ((0 : Nat) : Int))) (Pr.ex (Value.agg #[i64 (((items.take (1 + (((cut).toNat) % items.length))).length : Nat) : Int), w32 (root ((items.take (1 + (((cut).toNat) % items.length))).map of)).a, w32 (root ((items.take (1 + (((cut).toNat) % items.length))).map of)).b, w32 (root ((items.take (1 + (((cut).toNat) % items.length))).map of)).c, w32 (root ((items.take (1 + (((cut).toNat) % items.length))).map of)).d]))), (43, Pr.ifb (decide ((((proveOn (items.map of) (((1 + (((cut).toNat) % items.length) : Nat) : Int))).2 : Nat) : Int) = ((0 : Nat) : Int))) (Pr.ex (Value.agg #[x1]))), (44, Pr.ifb (decide ((((proveOn (items.map of) (((1 + (((cut).toNat) % items.length) : Nat) : Int))).2 : Nat) : Int) = ((0 : Nat) : Int))) (Pr.ex (Value.agg #[i64 ((items.length : Nat) : Int), w32 (root (items.map of)).a, w32 (root (items.map of)).b, w32 (root (items.map of)).c, w32 (root (items.map of)).d]))), (45, Pr.ifb (decide ((((proveOn (items.map of) (((1 + (((cut).toNat) % items.length) : Nat) : Int))).2 : Nat) : Int) = ((0 : Nat) : Int))) (Pr.ex (x6))), (46, Pr.ifb (decide ((((proveOn (items.map of) (((1 + (((cut).toNat) % items.length) : Nat) : Int))).2 : Nat) : Int) = ((0 : Nat) : Int))) (Pr.ex (Value.bool (checksOn (⟨(((items.take (1 + (((cut).toNat) % items.length))).length : Nat) : Int), root ((items.take (1 + (((cut).toNat) % items.length))).map of)⟩ : Head).root (⟨(((items.take (1 + (((cut).toNat) % items.length))).length : Nat) : Int), root ((items.take (1 + (((cut).toNat) % items.length))).map of)⟩ : Head).size (⟨((items.length : Nat) : Int), root (items.map of)⟩ : Head).root (⟨((items.length : Nat) : Int), root (items.map of)⟩ : Head).size ((proveOn (items.map of) (((1 + (((cut).toNat) % items.length) : Nat) : Int))).1))))), (47, Pr.ex (Value.bool ((decide ((((proveOn (items.map of) (((1 + (((cut).toNat) % items.length) : Nat) : Int))).2 : Nat) : Int) = ((0 : Nat) : Int))) && (checksOn (⟨(((items.take (1 + (((cut).toNat) % items.length))).length : Nat) : Int), root ((items.take (1 + (((cut).toNat) % items.length))).map of)⟩ : Head).root (⟨(((items.take (1 + (((cut).toNat) % items.length))).length : Nat) : Int), root ((items.take (1 + (((cut).toNat) % items.length))).map of)⟩ : Head).size (⟨((items.length : Nat) : Int), root (items.map of)⟩ : Head).root (⟨((items.length : Nat) : Int), root (items.map of)⟩ : Head).size ((proveOn (items.map of) (((1 + (((cut).toNat) % items.length) : Nat) : Int))).1))))), (4, Pr.ex (Value.bool ((decide ((((proveOn (items.map of) (((1 + (((cut).toNat) % items.length) : Nat) : Int))).2 : Nat) : Int) = ((0 : Nat) : Int))) && (checksOn (⟨(((items.take (1 + (((cut).toNat) % items.length))).length : Nat) : Int), root ((items.take (1 + (((cut).toNat) % items.length))).map of)⟩ : Head).root (⟨(((items.take (1 + (((cut).toNat) % items.length))).length : Nat) : Int), root ((items.take (1 + (((cut).toNat) % items.length))).map of)⟩ : Head).size (⟨((items.length : Nat) : Int), root (items.map of)⟩ : Head).root (⟨((items.length : Nat) : Int), root (items.map of)⟩ : Head).size ((proveOn (items.map of) (((1 + (((cut).toNat) % items.length) : Nat) : Int))).1)))))] 16 mixed hN_6 hD_6 (by kernel_rfl) (by kernel_rfl) (by kernel_rfl) ?_ ?_
  · refine Asks.cons ?_ (Asks.cons ?_ (Asks.cons ?_ (Asks.cons ?_ (Asks.cons ?_ (Asks.cons ?_ (Asks.cons ?_ (Asks.cons ?_ (Asks.cons ?_ (Asks.cons ?_ (Asks.cons ?_ (Asks.cons ?_ (Asks.cons ?_ (Asks.cons ?_ (Asks.cons ?_ (Asks.cons ?_ (Asks.zero _))))))))))))))))
    · refine Ask.plain rfl rfl ?_
      intro aq wq hNq hO hR hT
      replace hR := (Ext.drew _).trans hR
      exact does_move (V := i64 (((proveOn (items.map of) (((1 + (((cut).toNat) % items.length) : Nat) : Int))).2 : Nat) : Int)) ((hO 7 rfl).trans s7_6) ⟨Ext.refl _, rfl⟩
    · refine Ask.plain rfl rfl ?_
      intro aq wq hNq hO hR hT
      replace hR := (Ext.drew _).trans hR
      exact does_eql (a := (((proveOn (items.map of) (((1 + (((cut).toNat) % items.length) : Nat) : Int))).2 : Nat) : Int)) (b := ((0 : Nat) : Int)) (hT 33 rfl rfl) rfl ⟨Ext.refl _, rfl⟩
    · refine Ask.plain rfl rfl ?_
      intro aq wq hNq hO hR hT
      replace hR := (Ext.drew _).trans hR
      exact does_move (V := Value.bool (decide ((((proveOn (items.map of) (((1 + (((cut).toNat) % items.length) : Nat) : Int))).2 : Nat) : Int) = ((0 : Nat) : Int)))) (hT 34 rfl rfl) ⟨Ext.refl _, rfl⟩
    · refine Ask.guarded (B := decide ((((proveOn (items.map of) (((1 + (((cut).toNat) % items.length) : Nat) : Int))).2 : Nat) : Int) = ((0 : Nat) : Int))) (want := true) (t := 35) rfl rfl rfl rfl (by decide) (fun aq wq hO hR hT => hT 35 rfl rfl) (fun hG aq wq hNq hO hR hT => ?_) (fun hno _ hc => absurd hc hno)
      replace hR := (Ext.drew _).trans hR
      exact does_field (o' := 0) fld_24_0 ((hO 2 rfl).trans s2_6) rfl ⟨Ext.refl _, fun _ => rfl⟩
    · refine Ask.guarded (B := decide ((((proveOn (items.map of) (((1 + (((cut).toNat) % items.length) : Nat) : Int))).2 : Nat) : Int) = ((0 : Nat) : Int))) (want := true) (t := 35) rfl rfl rfl rfl (by decide) (fun aq wq hO hR hT => hT 35 rfl rfl) (fun hG aq wq hNq hO hR hT => ?_) (fun hno _ hc => absurd hc hno)
      replace hR := (Ext.drew _).trans hR
      exact does_loadD1 (o := 0) (V := x1) (hT 36 rfl rfl (hG)) (hbb2_6.ext' hR) rfl one_22 ⟨Ext.refl _, fun _ => rfl⟩
    · refine Ask.guarded (B := decide ((((proveOn (items.map of) (((1 + (((cut).toNat) % items.length) : Nat) : Int))).2 : Nat) : Int) = ((0 : Nat) : Int))) (want := true) (t := 35) rfl rfl rfl rfl (by decide) (fun aq wq hO hR hT => hT 35 rfl rfl) (fun hG aq wq hNq hO hR hT => ?_) (fun hno _ hc => absurd hc hno)
      replace hR := (Ext.drew _).trans hR
      exact does_move (V := i64 ((1 + (((cut).toNat) % items.length) : Nat) : Int)) ((hO 5 rfl).trans s5_6) ⟨Ext.refl _, fun _ => rfl⟩
    · refine Ask.guarded (B := decide ((((proveOn (items.map of) (((1 + (((cut).toNat) % items.length) : Nat) : Int))).2 : Nat) : Int) = ((0 : Nat) : Int))) (want := true) (t := 35) rfl rfl rfl rfl (by decide) (fun aq wq hO hR hT => hT 35 rfl rfl) (fun hG aq wq hNq hO hR hT => ?_) (fun hno _ hc => absurd hc hno)
      replace hR := (Ext.drew _).trans hR
      exact does_move (V := i64 ((1 + (((cut).toNat) % items.length) : Nat) : Int)) ((hO 5 rfl).trans s5_6) ⟨Ext.refl _, fun _ => rfl⟩
    · refine Ask.guarded (B := decide ((((proveOn (items.map of) (((1 + (((cut).toNat) % items.length) : Nat) : Int))).2 : Nat) : Int) = ((0 : Nat) : Int))) (want := true) (t := 35) rfl rfl rfl rfl (by decide) (fun aq wq hO hR hT => hT 35 rfl rfl) (fun hG aq wq hNq hO hR hT => ?_) (fun hno _ hc => absurd hc hno)
      replace hR := (Ext.drew _).trans hR
      exact does_sliceFull (T := Str) (xs := items) (k := ((1 + (((cut).toNat) % items.length) : Nat) : Int)) sli_22 rfl (SlT.at (hT 37 rfl rfl (hG)) (hsx1_6.ext' hR)) (hT 38 rfl rfl (hG)) (hT 39 rfl rfl (hG)) (by omega) (by omega) (fun v h => ⟨Ext.refl _, fun _ => h⟩)
    · refine Ask.guarded (B := decide ((((proveOn (items.map of) (((1 + (((cut).toNat) % items.length) : Nat) : Int))).2 : Nat) : Int) = ((0 : Nat) : Int))) (want := true) (t := 35) rfl rfl rfl rfl (by decide) (fun aq wq hO hR hT => hT 35 rfl rfl) (fun hG aq wq hNq hO hR hT => ?_) (fun hno _ hc => absurd hc hno)
      replace hR := (Ext.drew _).trans hR
      exact does_build (vs := #[(0, get aq 40)]) (V := Value.agg #[get aq 40]) (parts1 rfl) (by obtain ⟨sa0, sc0, hv0, _⟩ := (hT 40 rfl rfl (hG)); rw [hv0]; kernel_rfl) ⟨Ext.refl _, fun _ => ⟨get aq 40, rfl, (hT 40 rfl rfl (hG))⟩⟩
    · refine Ask.guarded (B := decide ((((proveOn (items.map of) (((1 + (((cut).toNat) % items.length) : Nat) : Int))).2 : Nat) : Int) = ((0 : Nat) : Int))) (want := true) (t := 35) rfl rfl rfl rfl (by decide) (fun aq wq hO hR hT => hT 35 rfl rfl) (fun hG aq wq hNq hO hR hT => ?_) (fun hno _ hc => absurd hc hno)
      replace hR := (Ext.drew _).trans hR
      obtain ⟨z41_0, hz41, kz41_0⟩ := (hT 41 rfl rfl (hG))
      exact does_ret (vs := #[Value.agg #[z41_0]]) call_18 (args1 hz41) rfl ((shead (items.take (1 + (((cut).toNat) % items.length))) (z41_0) wq (hL.ext (hE_6.trans hR)) (kz41_0.wide (Nat.zero_le _) (.inl rfl)) (fun x hx => hs x (List.mem_of_mem_take hx)) (by simp only [List.length_take]; omega)).mono fun v w2 h => ⟨h.2, fun _ => h.1⟩)
    · refine Ask.guarded (B := decide ((((proveOn (items.map of) (((1 + (((cut).toNat) % items.length) : Nat) : Int))).2 : Nat) : Int) = ((0 : Nat) : Int))) (want := true) (t := 35) rfl rfl rfl rfl (by decide) (fun aq wq hO hR hT => hT 35 rfl rfl) (fun hG aq wq hNq hO hR hT => ?_) (fun hno _ hc => absurd hc hno)
      replace hR := (Ext.drew _).trans hR
      exact does_loadD (o := 0) (n := 1) (mid := [x1]) ((hO 2 rfl).trans s2_6) (hbb2_6.ext' hR) rfl rfl (Nat.le_of_ble_eq_true rfl) row_24 rfl ⟨Ext.refl _, fun _ => rfl⟩
    · refine Ask.guarded (B := decide ((((proveOn (items.map of) (((1 + (((cut).toNat) % items.length) : Nat) : Int))).2 : Nat) : Int) = ((0 : Nat) : Int))) (want := true) (t := 35) rfl rfl rfl rfl (by decide) (fun aq wq hO hR hT => hT 35 rfl rfl) (fun hG aq wq hNq hO hR hT => ?_) (fun hno _ hc => absurd hc hno)
      replace hR := (Ext.drew _).trans hR
      exact does_ret (vs := #[Value.agg #[x1]]) call_18 (args1 (hT 43 rfl rfl (hG))) rfl ((shead (items) (x1) wq (hL.ext (hE_6.trans hR)) ((hsx1_6.ext' hR).wide (Nat.zero_le _) (.inl rfl)) hs hn).mono fun v w2 h => ⟨h.2, fun _ => h.1⟩)
    · refine Ask.guarded (B := decide ((((proveOn (items.map of) (((1 + (((cut).toNat) % items.length) : Nat) : Int))).2 : Nat) : Int) = ((0 : Nat) : Int))) (want := true) (t := 35) rfl rfl rfl rfl (by decide) (fun aq wq hO hR hT => hT 35 rfl rfl) (fun hG aq wq hNq hO hR hT => ?_) (fun hno _ hc => absurd hc hno)
      replace hR := (Ext.drew _).trans hR
      exact does_move (V := x6) ((hO 6 rfl).trans s6_6) ⟨Ext.refl _, fun _ => rfl⟩
    · refine Ask.guarded (B := decide ((((proveOn (items.map of) (((1 + (((cut).toNat) % items.length) : Nat) : Int))).2 : Nat) : Int) = ((0 : Nat) : Int))) (want := true) (t := 35) rfl rfl rfl rfl (by decide) (fun aq wq hO hR hT => hT 35 rfl rfl) (fun hG aq wq hNq hO hR hT => ?_) (fun hno _ hc => absurd hc hno)
      replace hR := (Ext.drew _).trans hR
      exact does_ret (vs := #[Value.agg #[i64 (((items.take (1 + (((cut).toNat) % items.length))).length : Nat) : Int), w32 (root ((items.take (1 + (((cut).toNat) % items.length))).map of)).a, w32 (root ((items.take (1 + (((cut).toNat) % items.length))).map of)).b, w32 (root ((items.take (1 + (((cut).toNat) % items.length))).map of)).c, w32 (root ((items.take (1 + (((cut).toNat) % items.length))).map of)).d], Value.agg #[i64 ((items.length : Nat) : Int), w32 (root (items.map of)).a, w32 (root (items.map of)).b, w32 (root (items.map of)).c, w32 (root (items.map of)).d], x6]) call_25 (args3 (hT 42 rfl rfl (hG)) (hT 44 rfl rfl (hG)) (hT 45 rfl rfl (hG))) rfl ((headOn_ (⟨(((items.take (1 + (((cut).toNat) % items.length))).length : Nat) : Int), root ((items.take (1 + (((cut).toNat) % items.length))).map of)⟩ : Head) (⟨((items.length : Nat) : Int), root (items.map of)⟩ : Head) ((proveOn (items.map of) (((1 + (((cut).toNat) % items.length) : Nat) : Int))).1) (x6) wq (hL.ext (hE_6.trans hR)) ((hsx6_6.ext' hR).wide (Nat.zero_le _) (.inl rfl)) (by have := goes_len2 (l := items.map of) (m := ((1 + cut.toNat % items.length : Nat) : Int)); rw [List.length_map] at this; omega)).mono fun v w2 h => ⟨h.2, fun _ => h.1⟩)
    · refine Ask.plain rfl rfl ?_
      intro aq wq hNq hO hR hT
      replace hR := (Ext.drew _).trans hR
      exact does_and (B := decide ((((proveOn (items.map of) (((1 + (((cut).toNat) % items.length) : Nat) : Int))).2 : Nat) : Int) = ((0 : Nat) : Int))) (X := checksOn (⟨(((items.take (1 + (((cut).toNat) % items.length))).length : Nat) : Int), root ((items.take (1 + (((cut).toNat) % items.length))).map of)⟩ : Head).root (⟨(((items.take (1 + (((cut).toNat) % items.length))).length : Nat) : Int), root ((items.take (1 + (((cut).toNat) % items.length))).map of)⟩ : Head).size (⟨((items.length : Nat) : Int), root (items.map of)⟩ : Head).root (⟨((items.length : Nat) : Int), root (items.map of)⟩ : Head).size ((proveOn (items.map of) (((1 + (((cut).toNat) % items.length) : Nat) : Int))).1)) (hT 35 rfl rfl) (fun hB => (hT 46 rfl rfl hB)) rfl ⟨Ext.refl _, rfl⟩
    · refine Ask.plain rfl rfl ?_
      intro aq wq hNq hO hR hT
      replace hR := (Ext.drew _).trans hR
      exact does_assign (V := Value.bool ((decide ((((proveOn (items.map of) (((1 + (((cut).toNat) % items.length) : Nat) : Int))).2 : Nat) : Int) = ((0 : Nat) : Int))) && (checksOn (⟨(((items.take (1 + (((cut).toNat) % items.length))).length : Nat) : Int), root ((items.take (1 + (((cut).toNat) % items.length))).map of)⟩ : Head).root (⟨(((items.take (1 + (((cut).toNat) % items.length))).length : Nat) : Int), root ((items.take (1 + (((cut).toNat) % items.length))).map of)⟩ : Head).size (⟨((items.length : Nat) : Int), root (items.map of)⟩ : Head).root (⟨((items.length : Nat) : Int), root (items.map of)⟩ : Head).size ((proveOn (items.map of) (((1 + (((cut).toNat) % items.length) : Nat) : Int))).1)))) (hT 47 rfl rfl) ⟨Ext.refl _, rfl⟩
  intro a7 wd7 hN_7 hD_7 hO hR hA hU
  obtain ⟨_, _, _, _, _, _, _, _, _, _, _, _, _, _, _, t4, _⟩ := hA
  have hE_7 := hE_6.trans hR
  have hbb2_7 := hbb2_6.ext' hR
  have hsx1_7 := hsx1_6.ext' hR
  have hsx6_7 := hsx6_6.ext' hR
  have hox6_7 := hox6_6.ext' hR
  have s4_7 : get a7 4 = Value.bool ((decide ((((proveOn (items.map of) (((1 + (((cut).toNat) % items.length) : Nat) : Int))).2 : Nat) : Int) = ((0 : Nat) : Int))) && (checksOn (⟨(((items.take (1 + (((cut).toNat) % items.length))).length : Nat) : Int), root ((items.take (1 + (((cut).toNat) % items.length))).map of)⟩ : Head).root (⟨(((items.take (1 + (((cut).toNat) % items.length))).length : Nat) : Int), root ((items.take (1 + (((cut).toNat) % items.length))).map of)⟩ : Head).size (⟨((items.length : Nat) : Int), root (items.map of)⟩ : Head).root (⟨((items.length : Nat) : Int), root (items.map of)⟩ : Head).size ((proveOn (items.map of) (((1 + (((cut).toNat) % items.length) : Nat) : Int))).1))) := t4
  clear hE_6 hN_6 hD_6 s2_6 s5_6 s6_6 s7_6 hbb2_6 hsx1_6 hsx6_6 hox6_6
  refine tail_nil ?_
  refine wp_ret ?_
  refine res_one (V := Value.bool ((decide ((((proveOn (items.map of) (((1 + (((cut).toNat) % items.length) : Nat) : Int))).2 : Nat) : Int) = ((0 : Nat) : Int))) && (checksOn (⟨(((items.take (1 + (((cut).toNat) % items.length))).length : Nat) : Int), root ((items.take (1 + (((cut).toNat) % items.length))).map of)⟩ : Head).root (⟨(((items.take (1 + (((cut).toNat) % items.length))).length : Nat) : Int), root ((items.take (1 + (((cut).toNat) % items.length))).map of)⟩ : Head).size (⟨((items.length : Nat) : Int), root (items.map of)⟩ : Head).root (⟨((items.length : Nat) : Int), root (items.map of)⟩ : Head).size ((proveOn (items.map of) (((1 + (((cut).toNat) % items.length) : Nat) : Int))).1)))) rfl hD_7 s4_7 ?_
  exact ⟨congrArg Value.bool (headGoes_law (by omega) (by omega) (by omega)), hE_7⟩

end Go.Proofs.YtijfjpbahepegaaDoor
