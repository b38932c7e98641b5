/- The walks of functions of the program: printed. -/
import Derived.Test.YtijfjpbahepegaaDoorKB
import Derived.Test.YtijfjpbahepegaaDoorG3
import Derived.Test.YtijfjpbahepegaaDoorG7
import Derived.Test.YtijfjpbahepegaaDoorG8
import Derived.Test.YtijfjpbahepegaaDoorG9
import Derived.Test.YtijfjpbahepegaaDoorG12
import Derived.Test.YtijfjpbahepegaaDoorG26
import Derived.Test.YtijfjpbahepegaaDoorG41
import Derived.Test.YtijfjpbahepegaaDoorG80
import Derived.Test.YtijfjpbahepegaaDoorG81
import Derived.Test.YtijfjpbahepegaaDoorF0
set_option maxRecDepth 100000
namespace Go.Proofs.YtijfjpbahepegaaDoor
open Go Go.RowKit Sk Sd
theorem call_34 : Callable Tryd.prog 34 := ⟨_, Tryd.func34, by kernel_rfl, rfl⟩
theorem call_35 : Callable Tryd.prog 35 := ⟨_, Tryd.func35, by kernel_rfl, rfl⟩
theorem call_36 : Callable Tryd.prog 36 := ⟨_, Tryd.func36, by kernel_rfl, rfl⟩
theorem call_27 : Callable Tryd.prog 27 := ⟨_, Tryd.func27, by kernel_rfl, rfl⟩
theorem call_25 : Callable Tryd.prog 25 := ⟨_, Tryd.func25, by kernel_rfl, rfl⟩
theorem siz_9 : (Tryd.prog.info? 9).map (·.size) = some 1 := by kernel_rfl
theorem call_23 : Callable Tryd.prog 23 := ⟨_, Tryd.func23, by kernel_rfl, rfl⟩
theorem systemOn (items : List (List UInt8)) (x1 : Value) (fr pl : UInt8) (w0 : World) (hL : Laid w0) (hx1 : SlT Str 0 0 items x1 w0) :
    Gives Tryd.prog 11 #[x1, w8 (fr), w8 (pl)] w0 (Pr.ex (Value.bool true)) := by
 refine enter (N := 132) Tryd.func11 rfl rfl ?_
 intro a0 hN_0 hD_0 hA
 have s0_0 : get a0 0 = x1 := hA 0 _ rfl
 have s1_0 : get a0 1 = w8 (fr) := hA 1 _ rfl
 have s2_0 : get a0 2 = w8 (pl) := hA 2 _ rfl
 clear hA
 have hE_0 : Ext w0 w0 := Ext.refl w0
 have hsx1_0 := hx1.close
 refine wp_seq ?_
 refine region_lex [] [(6, Pr.ex (Value.bool (false)))] 1 hN_0 hD_0 (by kernel_rfl) (by kernel_rfl) ?_ ?_
 refine Asks.cons ?_ (Asks.zero _)
 exact Ask.plain rfl rfl fun aq wq hNq hO hR hT => does_assign (V := Value.bool (false)) rfl ⟨Ext.refl _, rfl⟩
 intro a1 wd1 hN_1 hD_1 hO hR hA hU
 obtain ⟨_, _⟩ := hA
 have hE_1 := hE_0.trans hR
 have s0_1 := (hO 0 rfl).trans s0_0
 have s1_1 := (hO 1 rfl).trans s1_0
 have s2_1 := (hO 2 rfl).trans s2_0
 have hsx1_1 := hsx1_0.ext' hR
 clear hE_0 hN_0 hD_0 s0_0 s1_0 s2_0 hsx1_0
 refine tail_nil ?_
 refine wp_seq ?_
 refine wp_seq ?_
 refine region_lex [] [(22, Pr.ex (x1)), (23, Pr.ex (Value.bool (few items 12 300))), (24, Pr.ex (Value.bool (!(few items 12 300)))), (25, Pr.ex (Value.bool (!(few items 12 300)))), (26, Pr.ifb (!(!(few items 12 300))) (Pr.ex (x1))), (27, Pr.ifb (!(!(few items 12 300))) (Pr.ex (i64 ((items.length : Nat) : Int)))), (28, Pr.ifb (!(!(few items 12 300))) (Pr.ex (Value.bool (decide (((items.length : Nat) : Int) = ((0 : Nat) : Int)))))), (29, Pr.ex (Value.bool ((!(few items 12 300)) || (decide (((items.length : Nat) : Int) = ((0 : Nat) : Int))))))] 8 hN_1 hD_1 (by kernel_rfl) (by kernel_rfl) ?_ ?_
 refine Asks.cons ?_ (Asks.cons ?_ (Asks.cons ?_ (Asks.cons ?_ (Asks.cons ?_ (Asks.cons ?_ (Asks.cons ?_ (Asks.cons ?_ (Asks.zero _))))))))
 exact Ask.plain rfl rfl fun aq wq hNq hO hR hT => does_move (V := x1) ((hO 0 rfl).trans s0_1) ⟨Ext.refl _, rfl⟩
 exact Ask.plain rfl rfl fun aq wq hNq hO hR hT => does_ret (vs := #[x1]) call_34 (args1 (hT 22 rfl rfl)) rfl ((texts_ items (x1) wq ((hsx1_1.ext' hR).wide (Nat.zero_le _) (.inl rfl))).mono fun v w2 h => ⟨h.2, h.1⟩)
 exact Ask.plain rfl rfl fun aq wq hNq hO hR hT => does_not (B := few items 12 300) (hT 23 rfl rfl) ⟨Ext.refl _, rfl⟩
 exact Ask.plain rfl rfl fun aq wq hNq hO hR hT => does_move (V := Value.bool (!(few items 12 300))) (hT 24 rfl rfl) ⟨Ext.refl _, rfl⟩
 refine Ask.guarded (B := !(few items 12 300)) (want := false) (t := 25) rfl rfl rfl rfl (by decide) (fun aq wq hO hR hT => hT 25 rfl rfl) (fun hG aq wq hNq hO hR hT => ?_) (fun hno _ => fun hc => absurd (bn hc) hno)
 replace hG := nb hG
 exact does_move (V := x1) ((hO 0 rfl).trans s0_1) ⟨Ext.refl _, fun _ => rfl⟩
 refine Ask.guarded (B := !(few items 12 300)) (want := false) (t := 25) rfl rfl rfl rfl (by decide) (fun aq wq hO hR hT => hT 25 rfl rfl) (fun hG aq wq hNq hO hR hT => ?_) (fun hno _ => fun hc => absurd (bn hc) hno)
 replace hG := nb hG
 exact does_len (T := Str) (xs := items) sli_22 (SlT.at (hT 26 rfl rfl hG) (hsx1_1.ext' hR)) ⟨Ext.refl _, fun _ => rfl⟩
 refine Ask.guarded (B := !(few items 12 300)) (want := false) (t := 25) rfl rfl rfl rfl (by decide) (fun aq wq hO hR hT => hT 25 rfl rfl) (fun hG aq wq hNq hO hR hT => ?_) (fun hno _ => fun hc => absurd (bn hc) hno)
 replace hG := nb hG
 exact does_eql (a := ((items.length : Nat) : Int)) (b := ((0 : Nat) : Int)) (hT 27 rfl rfl hG) rfl ⟨Ext.refl _, fun _ => rfl⟩
 exact Ask.plain rfl rfl fun aq wq hNq hO hR hT => does_or (B := !(few items 12 300)) (X := decide (((items.length : Nat) : Int) = ((0 : Nat) : Int))) (hT 25 rfl rfl) rfl (fun hB => (hT 28 rfl rfl (nb hB))) ⟨Ext.refl _, rfl⟩
 intro a2 wd2 hN_2 hD_2 hO hR hA hU
 obtain ⟨_, _, _, _, _, _, _, t29, _⟩ := hA
 have hE_2 := hE_1.trans hR
 have s0_2 := (hO 0 rfl).trans s0_1
 have s1_2 := (hO 1 rfl).trans s1_1
 have s2_2 := (hO 2 rfl).trans s2_1
 have hsx1_2 := hsx1_1.ext' hR
 have s29_2 : get a2 29 = Value.bool ((!(few items 12 300)) || (decide (((items.length : Nat) : Int) = ((0 : Nat) : Int)))) := t29
 clear hE_1 hN_1 hD_1 s0_1 s1_1 s2_1 hsx1_1
 refine tail_nil ?_
 refine wp_if (B := (!(few items 12 300)) || (decide (((items.length : Nat) : Int) = ((0 : Nat) : Int)))) s29_2 (fun hc0 => ?_) (fun hc0 => ?_)
 refine wp_seq ?_
 refine region_lex [] [(6, Pr.ex (Value.bool (true)))] 1 hN_2 hD_2 (by kernel_rfl) (by kernel_rfl) ?_ ?_
 refine Asks.cons ?_ (Asks.zero _)
 exact Ask.plain rfl rfl fun aq wq hNq hO hR hT => does_assign (V := Value.bool (true)) rfl ⟨Ext.refl _, rfl⟩
 intro a3 wd3 hN_3 hD_3 hO hR hA hU
 obtain ⟨t6, _⟩ := hA
 have hE_3 := hE_2.trans hR
 have hsx1_3 := hsx1_2.ext' hR
 have s6_3 : get a3 6 = Value.bool (true) := t6
 clear hE_2 hN_2 hD_2 s0_2 s1_2 s2_2 s29_2 hsx1_2
 refine tail_nil ?_
 refine wp_ret ?_
 refine res_one (V := Value.bool (true)) rfl hD_3 s6_3 ?_
 exact ⟨rfl, hE_3⟩
 obtain ⟨hf, hlen⟩ : few items 12 300 = true ∧ ¬ ((items.length : Nat) : Int) = 0 := by simpa using hc0
 have hmost := (few_spec hf).1
 refine wp_skip ?_
 refine wp_seq ?_
 refine region_lex [] [(31, Pr.ex (x1)), (32, Pr.t2 (Pr.ag (fun x => Value.agg #[x]) (Pr.sl' Str 0 0 ((fill [] items).1))) (Pr.ex (Value.bool ((fill [] items).2)))), (30, Pr.t2 (Pr.ag (fun x => Value.agg #[x]) (Pr.sl' Str 0 0 ((fill [] items).1))) (Pr.ex (Value.bool ((fill [] items).2)))), (33, Pr.ag (fun x => Value.agg #[x]) (Pr.sl' Str 0 0 ((fill [] items).1))), (34, Pr.ex (Value.bool ((fill [] items).2)))] 5 hN_2 hD_2 (by kernel_rfl) (by kernel_rfl) ?_ ?_
 refine Asks.cons ?_ (Asks.cons ?_ (Asks.cons ?_ (Asks.cons ?_ (Asks.cons ?_ (Asks.zero _)))))
 exact Ask.plain rfl rfl fun aq wq hNq hO hR hT => does_move (V := x1) ((hO 0 rfl).trans s0_2) ⟨Ext.refl _, rfl⟩
 exact Ask.plain rfl rfl fun aq wq hNq hO hR hT => does_ret (vs := #[x1]) call_35 (args1 (hT 31 rfl rfl)) rfl ((filled_ items (x1) wq (hL.ext (hE_2.trans hR)) ((hsx1_2.ext' hR).wide (Nat.zero_le _) (.inl rfl)) (few_hs hf (by decide)) (by omega)).mono fun v w2 h => ⟨h.2, by obtain ⟨x0, x1, hv, k0, k1⟩ := h.1; exact ⟨x0, x1, hv, k0, k1⟩⟩)
 exact Ask.plain rfl rfl fun aq wq hNq hO hR hT => does_move rfl ⟨Ext.refl _, (hT 32 rfl rfl)⟩
 exact Ask.plain rfl rfl fun aq wq hNq hO hR hT => by
  obtain ⟨x0, x1, hv, k0, k1⟩ := (hT 30 rfl rfl)
  exact does_extract hv rfl ⟨Ext.refl _, k0⟩
 exact Ask.plain rfl rfl fun aq wq hNq hO hR hT => by
  obtain ⟨x0, x1, hv, k0, k1⟩ := (hT 30 rfl rfl)
  exact does_extract (V := Value.bool ((fill [] items).2)) hv (by rw [show x1 = Value.bool ((fill [] items).2) from k1]; rfl) ⟨Ext.refl _, rfl⟩
 intro a4 wd4 hN_4 hD_4 hO hR hA hU
 obtain ⟨_, _, _, t33, t34, _⟩ := hA
 have hE_4 := hE_2.trans hR
 have s1_4 := (hO 1 rfl).trans s1_2
 have s2_4 := (hO 2 rfl).trans s2_2
 have hsx1_4 := hsx1_2.ext' hR
 obtain ⟨x33_0_4, s33_4, ky33_0_4⟩ := t33
 have hsx33_0_4_4 : SlT Str 0 0 ((fill [] items).1) x33_0_4 wd4 := ky33_0_4
 have s34_4 : get a4 34 = Value.bool ((fill [] items).2) := t34
 clear hE_2 hN_2 hD_2 s0_2 s1_2 s2_2 s29_2 hsx1_2
 refine tail_put rfl rfl hN_4 hD_4 (by decide) (does_alloc zero_24 (fun b7 wd5 he lo_b7 hbb7_5 => fun a5 hN_5 hD_5 hv hO => ?_))
 have s7_5 := hv
 have hE_5 := hE_4.trans he
 have hsx1_5 := hsx1_4.ext' he
 have hsx33_0_4_5 := hsx33_0_4_4.ext' he
 have fr_b7 : w0.heap.size ≤ b7 := Nat.le_trans hE_4.size' lo_b7
 have nb_x1_b7 := SlT.old hsx1_4 lo_b7
 have nb_x33_0_4_b7 := SlT.old hsx33_0_4_4 lo_b7
 have s1_5 := (hO 1 rfl).trans s1_4
 have s2_5 := (hO 2 rfl).trans s2_4
 have s33_5 := (hO 33 rfl).trans s33_4
 have s34_5 := (hO 34 rfl).trans s34_4
 clear hO hv hN_4 hD_4 hE_4 hsx1_4 hsx33_0_4_4 s1_4 s2_4 s33_4 s34_4
 refine tail_none rfl rfl (does_storeD (o := 0) (n := 1) (cs' := [x33_0_4]) (V := Value.agg #[x33_0_4]) s7_5 s33_5 hbb7_5 (Nat.le_of_ble_eq_true rfl) rfl siz_24 (one_cons (SlT.one hsx33_0_4_5) one_nil) rfl (fun wd6 hX hz hbb7_6 => ?_))
 have hE_6 := hE_5.since hX (fun k e => e ▸ fr_b7)
 have hsx1_6 := SlT.over hsx1_5 hX nb_x1_b7
 have hsx33_0_4_6 := SlT.over hsx33_0_4_5 hX nb_x33_0_4_b7
 clear hX hz hE_5 hbb7_5 hsx1_5 hsx33_0_4_5
 refine tail_put rfl rfl hN_5 hD_5 (by decide) (does_assign (V := Value.bool ((fill [] items).2)) s34_5 (fun a7 hN_7 hD_7 hv hO => ?_))
 have s8_7 := hv
 have s1_7 := (hO 1 rfl).trans s1_5
 have s2_7 := (hO 2 rfl).trans s2_5
 have s7_7 := (hO 7 rfl).trans s7_5
 clear hO hv hN_5 hD_5 s1_5 s2_5 s7_5 s33_5 s34_5
 refine tail_nil ?_
 refine wp_seq ?_
 refine wp_seq ?_
 refine region_lex [] [(35, Pr.ex (Value.bool ((fill [] items).2))), (36, Pr.ex (Value.bool (!((fill [] items).2)))), (37, Pr.ex (Value.bool (!((fill [] items).2)))), (38, Pr.ifb (!(!((fill [] items).2))) (Pr.ex (Value.pointer (some ⟨b7, 0, none⟩)))), (39, Pr.ifb (!(!((fill [] items).2))) (Pr.ex (x33_0_4))), (40, Pr.ifb (!(!((fill [] items).2))) (Pr.ex (i64 ((((fill [] items).1).length : Nat) : Int)))), (41, Pr.ifb (!(!((fill [] items).2))) (Pr.ex (Value.bool (decide (((((fill [] items).1).length : Nat) : Int) = ((0 : Nat) : Int)))))), (42, Pr.ex (Value.bool ((!((fill [] items).2)) || (decide (((((fill [] items).1).length : Nat) : Int) = ((0 : Nat) : Int))))))] 8 hN_7 hD_7 (by kernel_rfl) (by kernel_rfl) ?_ ?_
 refine Asks.cons ?_ (Asks.cons ?_ (Asks.cons ?_ (Asks.cons ?_ (Asks.cons ?_ (Asks.cons ?_ (Asks.cons ?_ (Asks.cons ?_ (Asks.zero _))))))))
 exact Ask.plain rfl rfl fun aq wq hNq hO hR hT => does_move (V := Value.bool ((fill [] items).2)) ((hO 8 rfl).trans s8_7) ⟨Ext.refl _, rfl⟩
 exact Ask.plain rfl rfl fun aq wq hNq hO hR hT => does_not (B := (fill [] items).2) (hT 35 rfl rfl) ⟨Ext.refl _, rfl⟩
 exact Ask.plain rfl rfl fun aq wq hNq hO hR hT => does_move (V := Value.bool (!((fill [] items).2))) (hT 36 rfl rfl) ⟨Ext.refl _, rfl⟩
 refine Ask.guarded (B := !((fill [] items).2)) (want := false) (t := 37) rfl rfl rfl rfl (by decide) (fun aq wq hO hR hT => hT 37 rfl rfl) (fun hG aq wq hNq hO hR hT => ?_) (fun hno _ => fun hc => absurd (bn hc) hno)
 replace hG := nb hG
 exact does_field (o' := 0) fld_24_0 ((hO 7 rfl).trans s7_7) rfl ⟨Ext.refl _, fun _ => rfl⟩
 refine Ask.guarded (B := !((fill [] items).2)) (want := false) (t := 37) rfl rfl rfl rfl (by decide) (fun aq wq hO hR hT => hT 37 rfl rfl) (fun hG aq wq hNq hO hR hT => ?_) (fun hno _ => fun hc => absurd (bn hc) hno)
 replace hG := nb hG
 exact does_loadD1 (o := 0) (V := x33_0_4) (hT 38 rfl rfl hG) (hbb7_6.ext' hR) rfl one_22 ⟨Ext.refl _, fun _ => rfl⟩
 refine Ask.guarded (B := !((fill [] items).2)) (want := false) (t := 37) rfl rfl rfl rfl (by decide) (fun aq wq hO hR hT => hT 37 rfl rfl) (fun hG aq wq hNq hO hR hT => ?_) (fun hno _ => fun hc => absurd (bn hc) hno)
 replace hG := nb hG
 exact does_len (T := Str) (xs := (fill [] items).1) sli_22 (SlT.at (hT 39 rfl rfl hG) (hsx33_0_4_6.ext' hR)) ⟨Ext.refl _, fun _ => rfl⟩
 refine Ask.guarded (B := !((fill [] items).2)) (want := false) (t := 37) rfl rfl rfl rfl (by decide) (fun aq wq hO hR hT => hT 37 rfl rfl) (fun hG aq wq hNq hO hR hT => ?_) (fun hno _ => fun hc => absurd (bn hc) hno)
 replace hG := nb hG
 exact does_eql (a := ((((fill [] items).1).length : Nat) : Int)) (b := ((0 : Nat) : Int)) (hT 40 rfl rfl hG) rfl ⟨Ext.refl _, fun _ => rfl⟩
 exact Ask.plain rfl rfl fun aq wq hNq hO hR hT => does_or (B := !((fill [] items).2)) (X := decide (((((fill [] items).1).length : Nat) : Int) = ((0 : Nat) : Int))) (hT 37 rfl rfl) rfl (fun hB => (hT 41 rfl rfl (nb hB))) ⟨Ext.refl _, rfl⟩
 intro a8 wd8 hN_8 hD_8 hO hR hA hU
 obtain ⟨_, _, _, _, _, _, _, t42, _⟩ := hA
 have hE_8 := hE_6.trans hR
 have s1_8 := (hO 1 rfl).trans s1_7
 have s2_8 := (hO 2 rfl).trans s2_7
 have s7_8 := (hO 7 rfl).trans s7_7
 have hbb7_8 := hbb7_6.ext' hR
 have hsx1_8 := hsx1_6.ext' hR
 have hsx33_0_4_8 := hsx33_0_4_6.ext' hR
 have s42_8 : get a8 42 = Value.bool ((!((fill [] items).2)) || (decide (((((fill [] items).1).length : Nat) : Int) = ((0 : Nat) : Int)))) := t42
 clear hE_6 hN_7 hD_7 s1_7 s2_7 s7_7 s8_7 hbb7_6 hsx1_6 hsx33_0_4_6
 refine tail_nil ?_
 refine wp_if (B := (!((fill [] items).2)) || (decide (((((fill [] items).1).length : Nat) : Int) = ((0 : Nat) : Int)))) s42_8 (fun hc1 => ?_) (fun hc1 => ?_)
 refine wp_seq ?_
 refine region_lex [] [(6, Pr.ex (Value.bool (true)))] 1 hN_8 hD_8 (by kernel_rfl) (by kernel_rfl) ?_ ?_
 refine Asks.cons ?_ (Asks.zero _)
 exact Ask.plain rfl rfl fun aq wq hNq hO hR hT => does_assign (V := Value.bool (true)) rfl ⟨Ext.refl _, rfl⟩
 intro a9 wd9 hN_9 hD_9 hO hR hA hU
 obtain ⟨t6, _⟩ := hA
 have hE_9 := hE_8.trans hR
 have hbb7_9 := hbb7_8.ext' hR
 have hsx1_9 := hsx1_8.ext' hR
 have hsx33_0_4_9 := hsx33_0_4_8.ext' hR
 have s6_9 : get a9 6 = Value.bool (true) := t6
 clear hE_8 hN_8 hD_8 s1_8 s2_8 s7_8 s42_8 hbb7_8 hsx1_8 hsx33_0_4_8
 refine tail_nil ?_
 refine wp_ret ?_
 refine res_one (V := Value.bool (true)) rfl hD_9 s6_9 ?_
 exact ⟨rfl, hE_9⟩
 have hlen1 : ¬ ((((fill [] items).1.length : Nat) : Int) = ((0 : Nat) : Int)) := by simp only [Bool.or_eq_false_iff, decide_eq_false_iff_not] at hc1; exact hc1.2
 obtain ⟨hfl, hfm⟩ := fill_le items []
 simp only [List.length_nil] at hfl
 have hs300 : ∀ x ∈ (fill [] items).1, x.length ≤ 300 := fun x hx => (hfm x hx).elim (fun h => by cases h) ((few_spec hf).2 x)
 have hs1 : ∀ x ∈ (fill [] items).1, x.length ≤ 65536 := fun x hx => Nat.le_trans (hs300 x hx) (by decide)
 have hn1 : (fill [] items).1.length ≤ 100000 := by omega
 have hfr := Nat.mod_lt fr.toNat (show 0 < (fill [] items).1.length by omega)
 have hpl := Nat.mod_lt pl.toNat (show 0 < 1 + fr.toNat % (fill [] items).1.length by omega)
 have htl : ((fill [] items).1.take (1 + fr.toNat % (fill [] items).1.length)).length = 1 + fr.toNat % (fill [] items).1.length := by rw [List.length_take]; omega
 obtain ⟨y, hy⟩ := get_of_lt (l := (fill [] items).1.take (1 + fr.toNat % (fill [] items).1.length)) (k := pl.toNat % (1 + fr.toNat % (fill [] items).1.length)) (by omega)
 have hy300 : y.length ≤ 300 := hs300 y (List.mem_of_mem_take (mem_get hy))
 have hs2 : ∀ x ∈ ((fill [] items).1.take (1 + fr.toNat % (fill [] items).1.length)).set (pl.toNat % (1 + fr.toNat % (fill [] items).1.length)) (y ++ ([33] : List UInt8)), x.length ≤ 65536 := fun x hx => (List.mem_or_eq_of_mem_set hx).elim (fun h => hs1 x (List.mem_of_mem_take h)) (fun e => by rw [e]; simp only [List.length_append, List.length_cons, List.length_nil]; omega)
 have hn2 : (((fill [] items).1.take (1 + fr.toNat % (fill [] items).1.length)).set (pl.toNat % (1 + fr.toNat % (fill [] items).1.length)) (y ++ ([33] : List UInt8))).length ≤ 100000 := by rw [List.length_set]; omega
 refine wp_skip ?_
 refine wp_seq ?_
 refine region_lex [] [(43, Pr.ex (w8 (fr))), (44, Pr.ex (i64 (((fr).toNat : Nat) : Int))), (45, Pr.ex (Value.pointer (some ⟨b7, 0, none⟩))), (46, Pr.ex (x33_0_4)), (47, Pr.ex (i64 ((((fill [] items).1).length : Nat) : Int))), (48, Pr.ex (i64 ((((fr).toNat) % (((fill [] items).1).length) : Nat) : Int))), (49, Pr.ex (i64 ((1 + (((fr).toNat) % (((fill [] items).1).length)) : Nat) : Int))), (9, Pr.ex (i64 ((1 + (((fr).toNat) % (((fill [] items).1).length)) : Nat) : Int)))] 8 hN_8 hD_8 (by kernel_rfl) (by kernel_rfl) ?_ ?_
 refine Asks.cons ?_ (Asks.cons ?_ (Asks.cons ?_ (Asks.cons ?_ (Asks.cons ?_ (Asks.cons ?_ (Asks.cons ?_ (Asks.cons ?_ (Asks.zero _))))))))
 exact Ask.plain rfl rfl fun aq wq hNq hO hR hT => does_move (V := w8 (fr)) ((hO 1 rfl).trans s1_8) ⟨Ext.refl _, rfl⟩
 exact Ask.plain rfl rfl fun aq wq hNq hO hR hT => does_conv ⟨_, Tryd.underlying5⟩ Tryd.underlying3 (hT 43 rfl rfl) (conv_w_i8 _) ⟨Ext.refl _, rfl⟩
 exact Ask.plain rfl rfl fun aq wq hNq hO hR hT => does_field (o' := 0) fld_24_0 ((hO 7 rfl).trans s7_8) rfl ⟨Ext.refl _, rfl⟩
 exact Ask.plain rfl rfl fun aq wq hNq hO hR hT => does_loadD1 (o := 0) (V := x33_0_4) (hT 45 rfl rfl) (hbb7_8.ext' hR) rfl one_22 ⟨Ext.refl _, rfl⟩
 exact Ask.plain rfl rfl fun aq wq hNq hO hR hT => does_len (T := Str) (xs := (fill [] items).1) sli_22 (SlT.at (hT 46 rfl rfl) (hsx33_0_4_8.ext' hR)) ⟨Ext.refl _, rfl⟩
 exact Ask.plain rfl rfl fun aq wq hNq hO hR hT => does_rem (k := .i64) (a := (((fr).toNat : Nat) : Int)) (b := ((((fill [] items).1).length : Nat) : Int)) (r := ((((fr).toNat) % (((fill [] items).1).length) : Nat) : Int)) (hT 44 rfl rfl) (hT 47 rfl rfl) (by omega) (by omega) (by omega) ⟨Ext.refl _, rfl⟩
 exact Ask.plain rfl rfl fun aq wq hNq hO hR hT => does_add (a := ((1 : Nat) : Int)) (b := ((((fr).toNat) % (((fill [] items).1).length) : Nat) : Int)) (r := ((1 + (((fr).toNat) % (((fill [] items).1).length)) : Nat) : Int)) rfl (hT 48 rfl rfl) (by omega) (by omega) (by omega) ⟨Ext.refl _, rfl⟩
 exact Ask.plain rfl rfl fun aq wq hNq hO hR hT => does_assign (V := i64 ((1 + (((fr).toNat) % (((fill [] items).1).length)) : Nat) : Int)) (hT 49 rfl rfl) ⟨Ext.refl _, rfl⟩
 intro a10 wd10 hN_10 hD_10 hO hR hA hU
 obtain ⟨_, _, _, _, _, _, _, t9, _⟩ := hA
 have hE_10 := hE_8.trans hR
 have s2_10 := (hO 2 rfl).trans s2_8
 have s7_10 := (hO 7 rfl).trans s7_8
 have hbb7_10 := hbb7_8.ext' hR
 have hsx1_10 := hsx1_8.ext' hR
 have hsx33_0_4_10 := hsx33_0_4_8.ext' hR
 have s9_10 : get a10 9 = i64 ((1 + (((fr).toNat) % (((fill [] items).1).length)) : Nat) : Int) := t9
 clear hE_8 hN_8 hD_8 s1_8 s2_8 s7_8 s42_8 hbb7_8 hsx1_8 hsx33_0_4_8
 refine tail_nil ?_
 refine wp_seq ?_
 refine region_lex [10] [(50, Pr.ex (Value.pointer (some ⟨b7, 0, none⟩))), (51, Pr.ex (x33_0_4)), (52, Pr.ex (i64 ((1 + (((fr).toNat) % (((fill [] items).1).length)) : Nat) : Int))), (53, Pr.sl' Str 0 0 (((fill [] items).1).take (1 + (((fr).toNat) % (((fill [] items).1).length))))), (54, Pr.ag (fun x => Value.agg #[x]) (Pr.sl' Str 0 0 (((fill [] items).1).take (1 + (((fr).toNat) % (((fill [] items).1).length)))))), (55, Pr.ex (Value.agg #[i64 (((((fill [] items).1).take (1 + (((fr).toNat) % (((fill [] items).1).length)))).length : Nat) : Int), w32 (root ((((fill [] items).1).take (1 + (((fr).toNat) % (((fill [] items).1).length)))).map of)).a, w32 (root ((((fill [] items).1).take (1 + (((fr).toNat) % (((fill [] items).1).length)))).map of)).b, w32 (root ((((fill [] items).1).take (1 + (((fr).toNat) % (((fill [] items).1).length)))).map of)).c, w32 (root ((((fill [] items).1).take (1 + (((fr).toNat) % (((fill [] items).1).length)))).map of)).d])), (10, Pr.box' wd10.heap.size 29 [i64 ((0 : Nat) : Int), w32 (Dg.zero).a, w32 (Dg.zero).b, w32 (Dg.zero).c, w32 (Dg.zero).d])] 7 hN_10 hD_10 (by kernel_rfl) (by kernel_rfl) ?_ ?_
 refine Asks.cons ?_ (Asks.cons ?_ (Asks.cons ?_ (Asks.cons ?_ (Asks.cons ?_ (Asks.cons ?_ (Asks.cons ?_ (Asks.zero _)))))))
 exact Ask.plain rfl rfl fun aq wq hNq hO hR hT => does_field (o' := 0) fld_24_0 ((hO 7 rfl).trans s7_10) rfl ⟨Ext.refl _, rfl⟩
 exact Ask.plain rfl rfl fun aq wq hNq hO hR hT => does_loadD1 (o := 0) (V := x33_0_4) (hT 50 rfl rfl) (hbb7_10.ext' hR) rfl one_22 ⟨Ext.refl _, rfl⟩
 exact Ask.plain rfl rfl fun aq wq hNq hO hR hT => does_move (V := i64 ((1 + (((fr).toNat) % (((fill [] items).1).length)) : Nat) : Int)) ((hO 9 rfl).trans s9_10) ⟨Ext.refl _, rfl⟩
 exact Ask.plain rfl rfl fun aq wq hNq hO hR hT => does_sliceHi (T := Str) (xs := (fill [] items).1) (k := ((1 + (((fr).toNat) % (((fill [] items).1).length)) : Nat) : Int)) sli_22 rfl (SlT.at (hT 51 rfl rfl) (hsx33_0_4_10.ext' hR)) (hT 52 rfl rfl) (by omega) (by omega) (fun v h => ⟨Ext.refl _, h⟩)
 exact Ask.plain rfl rfl fun aq wq hNq hO hR hT => does_build (vs := #[(0, get aq 53)]) (V := Value.agg #[get aq 53]) (parts1 rfl) (by obtain ⟨sa0, sc0, hv0, _⟩ := (hT 53 rfl rfl); rw [hv0]; kernel_rfl) ⟨Ext.refl _, ⟨get aq 53, rfl, (hT 53 rfl rfl)⟩⟩
 exact Ask.plain rfl rfl fun aq wq hNq hO hR hT => by
  obtain ⟨z54_0, hz54, kz54_0⟩ := (hT 54 rfl rfl)
  exact does_ret (vs := #[Value.agg #[z54_0]]) call_18 (args1 hz54) rfl ((shead (((fill [] items).1).take (1 + (((fr).toNat) % (((fill [] items).1).length)))) (z54_0) wq (hL.ext (hE_10.trans hR)) (kz54_0.wide (Nat.zero_le _) (.inl rfl)) (fun x hx => hs1 x (List.mem_of_mem_take hx)) (by simp only [List.length_take]; omega)).mono fun v w2 h => ⟨h.2, h.1⟩)
 refine Ask.fresh rfl rfl ?_
 intro aq wq hNq hO hR hT
 exact does_alloc zero_29 (fun b w2 he hlo hb => ⟨he, ⟨b, rfl, Nat.le_trans hR.size' hlo, hb⟩, ⟨b, rfl, hlo, hb.lt⟩⟩)
 intro a11 wd11 hN_11 hD_11 hO hR hA hU
 obtain ⟨_, _, _, _, _, t55, t10, _⟩ := hA
 have hE_11 := hE_10.trans hR
 have s2_11 := (hO 2 rfl).trans s2_10
 have s7_11 := (hO 7 rfl).trans s7_10
 have s9_11 := (hO 9 rfl).trans s9_10
 have hbb7_11 := hbb7_10.ext' hR
 have hsx1_11 := hsx1_10.ext' hR
 have hsx33_0_4_11 := hsx33_0_4_10.ext' hR
 have s55_11 : get a11 55 = Value.agg #[i64 (((((fill [] items).1).take (1 + (((fr).toNat) % (((fill [] items).1).length)))).length : Nat) : Int), w32 (root ((((fill [] items).1).take (1 + (((fr).toNat) % (((fill [] items).1).length)))).map of)).a, w32 (root ((((fill [] items).1).take (1 + (((fr).toNat) % (((fill [] items).1).length)))).map of)).b, w32 (root ((((fill [] items).1).take (1 + (((fr).toNat) % (((fill [] items).1).length)))).map of)).c, w32 (root ((((fill [] items).1).take (1 + (((fr).toNat) % (((fill [] items).1).length)))).map of)).d] := t55
 obtain ⟨b10, s10_11, lo_b10, hbb10_11⟩ := t10
 have ne_b7_b10 : b7 ≠ b10 := fun e => Nat.lt_irrefl _ (Nat.lt_of_lt_of_le hbb7_10.lt (e ▸ lo_b10))
 have nb_x1_b10 := SlT.old hsx1_10 lo_b10
 have nb_x33_0_4_b10 := SlT.old hsx33_0_4_10 lo_b10
 have fr_b10 : w0.heap.size ≤ b10 := Nat.le_trans hE_10.size' lo_b10
 clear hE_10 hN_10 hD_10 s2_10 s7_10 s9_10 hbb7_10 hsx1_10 hsx33_0_4_10
 refine tail_none rfl rfl (does_storeD (o := 0) (n := 5) (cs' := [i64 (((((fill [] items).1).take (1 + (((fr).toNat) % (((fill [] items).1).length)))).length : Nat) : Int), w32 (root ((((fill [] items).1).take (1 + (((fr).toNat) % (((fill [] items).1).length)))).map of)).a, w32 (root ((((fill [] items).1).take (1 + (((fr).toNat) % (((fill [] items).1).length)))).map of)).b, w32 (root ((((fill [] items).1).take (1 + (((fr).toNat) % (((fill [] items).1).length)))).map of)).c, w32 (root ((((fill [] items).1).take (1 + (((fr).toNat) % (((fill [] items).1).length)))).map of)).d]) (V := Value.agg #[i64 (((((fill [] items).1).take (1 + (((fr).toNat) % (((fill [] items).1).length)))).length : Nat) : Int), w32 (root ((((fill [] items).1).take (1 + (((fr).toNat) % (((fill [] items).1).length)))).map of)).a, w32 (root ((((fill [] items).1).take (1 + (((fr).toNat) % (((fill [] items).1).length)))).map of)).b, w32 (root ((((fill [] items).1).take (1 + (((fr).toNat) % (((fill [] items).1).length)))).map of)).c, w32 (root ((((fill [] items).1).take (1 + (((fr).toNat) % (((fill [] items).1).length)))).map of)).d]) s10_11 s55_11 hbb10_11 (Nat.le_of_ble_eq_true rfl) rfl siz_29 rfl rfl (fun wd12 hX hz hbb10_12 => ?_))
 have hE_12 := hE_11.since hX (fun k e => e ▸ fr_b10)
 have hbb7_12 := hbb7_11.ext hX ne_b7_b10
 have hsx1_12 := SlT.over hsx1_11 hX nb_x1_b10
 have hsx33_0_4_12 := SlT.over hsx33_0_4_11 hX nb_x33_0_4_b10
 clear hX hz hE_11 hbb7_11 hbb10_11 hsx1_11 hsx33_0_4_11
 refine tail_nil ?_
 refine wp_seq ?_
 refine region_lex [11] [(56, Pr.ex (Value.agg #[x33_0_4])), (57, Pr.ex (Value.agg #[i64 ((((fill [] items).1).length : Nat) : Int), w32 (root (((fill [] items).1).map of)).a, w32 (root (((fill [] items).1).map of)).b, w32 (root (((fill [] items).1).map of)).c, w32 (root (((fill [] items).1).map of)).d])), (11, Pr.box' wd12.heap.size 29 [i64 ((0 : Nat) : Int), w32 (Dg.zero).a, w32 (Dg.zero).b, w32 (Dg.zero).c, w32 (Dg.zero).d])] 3 hN_11 hD_11 (by kernel_rfl) (by kernel_rfl) ?_ ?_
 refine Asks.cons ?_ (Asks.cons ?_ (Asks.cons ?_ (Asks.zero _)))
 exact Ask.plain rfl rfl fun aq wq hNq hO hR hT => does_loadD (o := 0) (n := 1) (mid := [x33_0_4]) ((hO 7 rfl).trans s7_11) (hbb7_12.ext' hR) rfl rfl (Nat.le_of_ble_eq_true rfl) row_24 rfl ⟨Ext.refl _, rfl⟩
 exact Ask.plain rfl rfl fun aq wq hNq hO hR hT => does_ret (vs := #[Value.agg #[x33_0_4]]) call_18 (args1 (hT 56 rfl rfl)) rfl ((shead ((fill [] items).1) (x33_0_4) wq (hL.ext (hE_12.trans hR)) ((hsx33_0_4_12.ext' hR).wide (Nat.zero_le _) (.inl rfl)) hs1 hn1).mono fun v w2 h => ⟨h.2, h.1⟩)
 refine Ask.fresh rfl rfl ?_
 intro aq wq hNq hO hR hT
 exact does_alloc zero_29 (fun b w2 he hlo hb => ⟨he, ⟨b, rfl, Nat.le_trans hR.size' hlo, hb⟩, ⟨b, rfl, hlo, hb.lt⟩⟩)
 intro a13 wd13 hN_13 hD_13 hO hR hA hU
 obtain ⟨_, t57, t11, _⟩ := hA
 have hE_13 := hE_12.trans hR
 have s2_13 := (hO 2 rfl).trans s2_11
 have s7_13 := (hO 7 rfl).trans s7_11
 have s9_13 := (hO 9 rfl).trans s9_11
 have s10_13 := (hO 10 rfl).trans s10_11
 have hbb7_13 := hbb7_12.ext' hR
 have hbb10_13 := hbb10_12.ext' hR
 have hsx1_13 := hsx1_12.ext' hR
 have hsx33_0_4_13 := hsx33_0_4_12.ext' hR
 have s57_13 : get a13 57 = Value.agg #[i64 ((((fill [] items).1).length : Nat) : Int), w32 (root (((fill [] items).1).map of)).a, w32 (root (((fill [] items).1).map of)).b, w32 (root (((fill [] items).1).map of)).c, w32 (root (((fill [] items).1).map of)).d] := t57
 obtain ⟨b11, s11_13, lo_b11, hbb11_13⟩ := t11
 have ne_b7_b11 : b7 ≠ b11 := fun e => Nat.lt_irrefl _ (Nat.lt_of_lt_of_le hbb7_12.lt (e ▸ lo_b11))
 have ne_b10_b11 : b10 ≠ b11 := fun e => Nat.lt_irrefl _ (Nat.lt_of_lt_of_le hbb10_12.lt (e ▸ lo_b11))
 have nb_x1_b11 := SlT.old hsx1_12 lo_b11
 have nb_x33_0_4_b11 := SlT.old hsx33_0_4_12 lo_b11
 have fr_b11 : w0.heap.size ≤ b11 := Nat.le_trans hE_12.size' lo_b11
 clear hE_12 hN_11 hD_11 s2_11 s7_11 s9_11 s10_11 s55_11 hbb7_12 hbb10_12 hsx1_12 hsx33_0_4_12
 refine tail_none rfl rfl (does_storeD (o := 0) (n := 5) (cs' := [i64 ((((fill [] items).1).length : Nat) : Int), w32 (root (((fill [] items).1).map of)).a, w32 (root (((fill [] items).1).map of)).b, w32 (root (((fill [] items).1).map of)).c, w32 (root (((fill [] items).1).map of)).d]) (V := Value.agg #[i64 ((((fill [] items).1).length : Nat) : Int), w32 (root (((fill [] items).1).map of)).a, w32 (root (((fill [] items).1).map of)).b, w32 (root (((fill [] items).1).map of)).c, w32 (root (((fill [] items).1).map of)).d]) s11_13 s57_13 hbb11_13 (Nat.le_of_ble_eq_true rfl) rfl siz_29 rfl rfl (fun wd14 hX hz hbb11_14 => ?_))
 have hE_14 := hE_13.since hX (fun k e => e ▸ fr_b11)
 have hbb7_14 := hbb7_13.ext hX ne_b7_b11
 have hbb10_14 := hbb10_13.ext hX ne_b10_b11
 have hsx1_14 := SlT.over hsx1_13 hX nb_x1_b11
 have hsx33_0_4_14 := SlT.over hsx33_0_4_13 hX nb_x33_0_4_b11
 clear hX hz hE_13 hbb7_13 hbb10_13 hbb11_13 hsx1_13 hsx33_0_4_13
 refine tail_nil ?_
 refine wp_seq ?_
 refine region_lex [] [(59, Pr.ex (Value.pointer (some ⟨b7, 0, none⟩))), (60, Pr.ex (x33_0_4)), (61, Pr.own' DG wd14.heap.size 27 (((fill [] items).1).map of)), (62, Pr.ex (i64 ((1 + (((fr).toNat) % (((fill [] items).1).length)) : Nat) : Int))), (63, Pr.t2 (Pr.own' DG wd14.heap.size 27 ((proveOn (((fill [] items).1).map of) (((1 + (((fr).toNat) % (((fill [] items).1).length)) : Nat) : Int))).1)) (Pr.ex (i64 (((proveOn (((fill [] items).1).map of) (((1 + (((fr).toNat) % (((fill [] items).1).length)) : Nat) : Int))).2 : Nat) : Int)))), (58, Pr.t2 (Pr.own' DG wd14.heap.size 27 ((proveOn (((fill [] items).1).map of) (((1 + (((fr).toNat) % (((fill [] items).1).length)) : Nat) : Int))).1)) (Pr.ex (i64 (((proveOn (((fill [] items).1).map of) (((1 + (((fr).toNat) % (((fill [] items).1).length)) : Nat) : Int))).2 : Nat) : Int)))), (64, Pr.own' DG wd14.heap.size 27 ((proveOn (((fill [] items).1).map of) (((1 + (((fr).toNat) % (((fill [] items).1).length)) : Nat) : Int))).1)), (65, Pr.ex (i64 (((proveOn (((fill [] items).1).map of) (((1 + (((fr).toNat) % (((fill [] items).1).length)) : Nat) : Int))).2 : Nat) : Int))), (12, Pr.own' DG wd14.heap.size 27 ((proveOn (((fill [] items).1).map of) (((1 + (((fr).toNat) % (((fill [] items).1).length)) : Nat) : Int))).1)), (13, Pr.ex (i64 (((proveOn (((fill [] items).1).map of) (((1 + (((fr).toNat) % (((fill [] items).1).length)) : Nat) : Int))).2 : Nat) : Int)))] 10 hN_13 hD_13 (by kernel_rfl) (by kernel_rfl) ?_ ?_
 refine Asks.cons ?_ (Asks.cons ?_ (Asks.cons ?_ (Asks.cons ?_ (Asks.cons ?_ (Asks.cons ?_ (Asks.cons ?_ (Asks.cons ?_ (Asks.cons ?_ (Asks.cons ?_ (Asks.zero _))))))))))
 exact Ask.plain rfl rfl fun aq wq hNq hO hR hT => does_field (o' := 0) fld_24_0 ((hO 7 rfl).trans s7_13) rfl ⟨Ext.refl _, rfl⟩
 exact Ask.plain rfl rfl fun aq wq hNq hO hR hT => does_loadD1 (o := 0) (V := x33_0_4) (hT 59 rfl rfl) (hbb7_14.ext' hR) rfl one_22 ⟨Ext.refl _, rfl⟩
 exact Ask.plain rfl rfl fun aq wq hNq hO hR hT => does_ret (vs := #[x33_0_4]) call_36 (args1 (hT 60 rfl rfl)) rfl ((digestsT ((fill [] items).1) (x33_0_4) wq (hL.ext (hE_14.trans hR)) ((hsx33_0_4_14.ext' hR).wide (Nat.zero_le _) (.inl rfl)) hs1 hn1).mono fun v w2 h => ⟨h.2, OwnT.base h.1 hR.size'⟩)
 exact Ask.plain rfl rfl fun aq wq hNq hO hR hT => does_move (V := i64 ((1 + (((fr).toNat) % (((fill [] items).1).length)) : Nat) : Int)) ((hO 9 rfl).trans s9_13) ⟨Ext.refl _, rfl⟩
 exact Ask.plain rfl rfl fun aq wq hNq hO hR hT => does_ret (vs := #[get aq 61, i64 ((1 + (((fr).toNat) % (((fill [] items).1).length)) : Nat) : Int)]) call_27 (args2 rfl (hT 62 rfl rfl)) rfl ((proveOn_ (((fill [] items).1).map of) (((1 + (((fr).toNat) % (((fill [] items).1).length)) : Nat) : Int)) (get aq 61) wq (hL.ext (hE_14.trans hR)) (((OwnT.sl (hT 61 rfl rfl)).wide (Nat.zero_le _) (.inl rfl)).wide (Nat.zero_le _) (.inl rfl)) (by rw [List.length_map]; omega)).mono fun v w2 h => ⟨h.2, by obtain ⟨x0, x1, hv, k0, k1⟩ := h.1; exact ⟨x0, x1, hv, OwnT.base k0 hR.size', k1⟩⟩)
 exact Ask.plain rfl rfl fun aq wq hNq hO hR hT => does_move rfl ⟨Ext.refl _, (hT 63 rfl rfl)⟩
 exact Ask.plain rfl rfl fun aq wq hNq hO hR hT => by
  obtain ⟨x0, x1, hv, k0, k1⟩ := (hT 58 rfl rfl)
  exact does_extract hv rfl ⟨Ext.refl _, k0⟩
 exact Ask.plain rfl rfl fun aq wq hNq hO hR hT => by
  obtain ⟨x0, x1, hv, k0, k1⟩ := (hT 58 rfl rfl)
  exact does_extract (V := i64 (((proveOn (((fill [] items).1).map of) (((1 + (((fr).toNat) % (((fill [] items).1).length)) : Nat) : Int))).2 : Nat) : Int)) hv (by rw [show x1 = i64 (((proveOn (((fill [] items).1).map of) (((1 + (((fr).toNat) % (((fill [] items).1).length)) : Nat) : Int))).2 : Nat) : Int) from k1]; rfl) ⟨Ext.refl _, rfl⟩
 exact Ask.plain rfl rfl fun aq wq hNq hO hR hT => does_assign rfl ⟨Ext.refl _, (hT 64 rfl rfl)⟩
 exact Ask.plain rfl rfl fun aq wq hNq hO hR hT => does_assign (V := i64 (((proveOn (((fill [] items).1).map of) (((1 + (((fr).toNat) % (((fill [] items).1).length)) : Nat) : Int))).2 : Nat) : Int)) (hT 65 rfl rfl) ⟨Ext.refl _, rfl⟩
 intro a15 wd15 hN_15 hD_15 hO hR hA hU
 obtain ⟨_, _, _, _, _, _, _, _, t12, t13, _⟩ := hA
 have hE_15 := hE_14.trans hR
 have s2_15 := (hO 2 rfl).trans s2_13
 have s7_15 := (hO 7 rfl).trans s7_13
 have s9_15 := (hO 9 rfl).trans s9_13
 have s10_15 := (hO 10 rfl).trans s10_13
 have s11_15 := (hO 11 rfl).trans s11_13
 have hbb7_15 := hbb7_14.ext' hR
 have hbb10_15 := hbb10_14.ext' hR
 have hbb11_15 := hbb11_14.ext' hR
 have hsx1_15 := hsx1_14.ext' hR
 have hsx33_0_4_15 := hsx33_0_4_14.ext' hR
 obtain ⟨x12, s12_15⟩ : ∃ x, get a15 12 = x := ⟨_, rfl⟩
 replace t12 : OwnT DG wd14.heap.size 27 ((proveOn (((fill [] items).1).map of) (((1 + (((fr).toNat) % (((fill [] items).1).length)) : Nat) : Int))).1) x12 wd15 := by rw [← s12_15]; exact t12
 have nbo_x12_b7 : x12.ownBlock ≠ some b7 := fun e => Nat.lt_irrefl _ (Nat.lt_of_lt_of_le hbb7_14.lt (OwnT.block_lt t12 e).1)
 have nbo_x12_b10 : x12.ownBlock ≠ some b10 := fun e => Nat.lt_irrefl _ (Nat.lt_of_lt_of_le hbb10_14.lt (OwnT.block_lt t12 e).1)
 have nbo_x12_b11 : x12.ownBlock ≠ some b11 := fun e => Nat.lt_irrefl _ (Nat.lt_of_lt_of_le hbb11_14.lt (OwnT.block_lt t12 e).1)
 have nz_x12_x33_0_4 := SlT.sep hsx33_0_4_14 t12
 have hsx12_15 := t12.sl.wide (Nat.zero_le _) (.inl rfl)
 have hox12_15 := OwnT.base t12 hE_14.size'
 have s13_15 : get a15 13 = i64 (((proveOn (((fill [] items).1).map of) (((1 + (((fr).toNat) % (((fill [] items).1).length)) : Nat) : Int))).2 : Nat) : Int) := t13
 clear hE_14 hN_13 hD_13 s2_13 s7_13 s9_13 s10_13 s11_13 s57_13 hbb7_14 hbb10_14 hbb11_14 hsx1_14 hsx33_0_4_14
 refine tail_nil ?_
 refine wp_seq ?_
 refine wp_seq ?_
 refine region_lex [] [(66, Pr.ex (i64 (((proveOn (((fill [] items).1).map of) (((1 + (((fr).toNat) % (((fill [] items).1).length)) : Nat) : Int))).2 : Nat) : Int))), (67, Pr.ex (Value.bool (!decide ((((proveOn (((fill [] items).1).map of) (((1 + (((fr).toNat) % (((fill [] items).1).length)) : Nat) : Int))).2 : Nat) : Int) = ((0 : Nat) : Int))))), (68, Pr.ex (Value.bool (!decide ((((proveOn (((fill [] items).1).map of) (((1 + (((fr).toNat) % (((fill [] items).1).length)) : Nat) : Int))).2 : Nat) : Int) = ((0 : Nat) : Int))))), (69, Pr.ifb (!(!decide ((((proveOn (((fill [] items).1).map of) (((1 + (((fr).toNat) % (((fill [] items).1).length)) : Nat) : Int))).2 : Nat) : Int) = ((0 : Nat) : Int)))) (Pr.ex (Value.agg #[i64 (((((fill [] items).1).take (1 + (((fr).toNat) % (((fill [] items).1).length)))).length : Nat) : Int), w32 (root ((((fill [] items).1).take (1 + (((fr).toNat) % (((fill [] items).1).length)))).map of)).a, w32 (root ((((fill [] items).1).take (1 + (((fr).toNat) % (((fill [] items).1).length)))).map of)).b, w32 (root ((((fill [] items).1).take (1 + (((fr).toNat) % (((fill [] items).1).length)))).map of)).c, w32 (root ((((fill [] items).1).take (1 + (((fr).toNat) % (((fill [] items).1).length)))).map of)).d]))), (70, Pr.ifb (!(!decide ((((proveOn (((fill [] items).1).map of) (((1 + (((fr).toNat) % (((fill [] items).1).length)) : Nat) : Int))).2 : Nat) : Int) = ((0 : Nat) : Int)))) (Pr.ex (Value.agg #[i64 ((((fill [] items).1).length : Nat) : Int), w32 (root (((fill [] items).1).map of)).a, w32 (root (((fill [] items).1).map of)).b, w32 (root (((fill [] items).1).map of)).c, w32 (root (((fill [] items).1).map of)).d]))), (71, Pr.ifb (!(!decide ((((proveOn (((fill [] items).1).map of) (((1 + (((fr).toNat) % (((fill [] items).1).length)) : Nat) : Int))).2 : Nat) : Int) = ((0 : Nat) : Int)))) (Pr.ex (x12))), (72, Pr.ifb (!(!decide ((((proveOn (((fill [] items).1).map of) (((1 + (((fr).toNat) % (((fill [] items).1).length)) : Nat) : Int))).2 : Nat) : Int) = ((0 : Nat) : Int)))) (Pr.ex (Value.bool (checksOn (⟨(((((fill [] items).1).take (1 + (((fr).toNat) % (((fill [] items).1).length)))).length : Nat) : Int), root ((((fill [] items).1).take (1 + (((fr).toNat) % (((fill [] items).1).length)))).map of)⟩ : Head).root (⟨(((((fill [] items).1).take (1 + (((fr).toNat) % (((fill [] items).1).length)))).length : Nat) : Int), root ((((fill [] items).1).take (1 + (((fr).toNat) % (((fill [] items).1).length)))).map of)⟩ : Head).size (⟨((((fill [] items).1).length : Nat) : Int), root (((fill [] items).1).map of)⟩ : Head).root (⟨((((fill [] items).1).length : Nat) : Int), root (((fill [] items).1).map of)⟩ : Head).size ((proveOn (((fill [] items).1).map of) (((1 + (((fr).toNat) % (((fill [] items).1).length)) : Nat) : Int))).1))))), (73, Pr.ifb (!(!decide ((((proveOn (((fill [] items).1).map of) (((1 + (((fr).toNat) % (((fill [] items).1).length)) : Nat) : Int))).2 : Nat) : Int) = ((0 : Nat) : Int)))) (Pr.ex (Value.bool (!(checksOn (⟨(((((fill [] items).1).take (1 + (((fr).toNat) % (((fill [] items).1).length)))).length : Nat) : Int), root ((((fill [] items).1).take (1 + (((fr).toNat) % (((fill [] items).1).length)))).map of)⟩ : Head).root (⟨(((((fill [] items).1).take (1 + (((fr).toNat) % (((fill [] items).1).length)))).length : Nat) : Int), root ((((fill [] items).1).take (1 + (((fr).toNat) % (((fill [] items).1).length)))).map of)⟩ : Head).size (⟨((((fill [] items).1).length : Nat) : Int), root (((fill [] items).1).map of)⟩ : Head).root (⟨((((fill [] items).1).length : Nat) : Int), root (((fill [] items).1).map of)⟩ : Head).size ((proveOn (((fill [] items).1).map of) (((1 + (((fr).toNat) % (((fill [] items).1).length)) : Nat) : Int))).1)))))), (74, Pr.ex (Value.bool ((!decide ((((proveOn (((fill [] items).1).map of) (((1 + (((fr).toNat) % (((fill [] items).1).length)) : Nat) : Int))).2 : Nat) : Int) = ((0 : Nat) : Int))) || (!(checksOn (⟨(((((fill [] items).1).take (1 + (((fr).toNat) % (((fill [] items).1).length)))).length : Nat) : Int), root ((((fill [] items).1).take (1 + (((fr).toNat) % (((fill [] items).1).length)))).map of)⟩ : Head).root (⟨(((((fill [] items).1).take (1 + (((fr).toNat) % (((fill [] items).1).length)))).length : Nat) : Int), root ((((fill [] items).1).take (1 + (((fr).toNat) % (((fill [] items).1).length)))).map of)⟩ : Head).size (⟨((((fill [] items).1).length : Nat) : Int), root (((fill [] items).1).map of)⟩ : Head).root (⟨((((fill [] items).1).length : Nat) : Int), root (((fill [] items).1).map of)⟩ : Head).size ((proveOn (((fill [] items).1).map of) (((1 + (((fr).toNat) % (((fill [] items).1).length)) : Nat) : Int))).1)))))), (75, Pr.ex (Value.bool ((!decide ((((proveOn (((fill [] items).1).map of) (((1 + (((fr).toNat) % (((fill [] items).1).length)) : Nat) : Int))).2 : Nat) : Int) = ((0 : Nat) : Int))) || (!(checksOn (⟨(((((fill [] items).1).take (1 + (((fr).toNat) % (((fill [] items).1).length)))).length : Nat) : Int), root ((((fill [] items).1).take (1 + (((fr).toNat) % (((fill [] items).1).length)))).map of)⟩ : Head).root (⟨(((((fill [] items).1).take (1 + (((fr).toNat) % (((fill [] items).1).length)))).length : Nat) : Int), root ((((fill [] items).1).take (1 + (((fr).toNat) % (((fill [] items).1).length)))).map of)⟩ : Head).size (⟨((((fill [] items).1).length : Nat) : Int), root (((fill [] items).1).map of)⟩ : Head).root (⟨((((fill [] items).1).length : Nat) : Int), root (((fill [] items).1).map of)⟩ : Head).size ((proveOn (((fill [] items).1).map of) (((1 + (((fr).toNat) % (((fill [] items).1).length)) : Nat) : Int))).1)))))), (76, Pr.ifb (!((!decide ((((proveOn (((fill [] items).1).map of) (((1 + (((fr).toNat) % (((fill [] items).1).length)) : Nat) : Int))).2 : Nat) : Int) = ((0 : Nat) : Int))) || (!(checksOn (⟨(((((fill [] items).1).take (1 + (((fr).toNat) % (((fill [] items).1).length)))).length : Nat) : Int), root ((((fill [] items).1).take (1 + (((fr).toNat) % (((fill [] items).1).length)))).map of)⟩ : Head).root (⟨(((((fill [] items).1).take (1 + (((fr).toNat) % (((fill [] items).1).length)))).length : Nat) : Int), root ((((fill [] items).1).take (1 + (((fr).toNat) % (((fill [] items).1).length)))).map of)⟩ : Head).size (⟨((((fill [] items).1).length : Nat) : Int), root (((fill [] items).1).map of)⟩ : Head).root (⟨((((fill [] items).1).length : Nat) : Int), root (((fill [] items).1).map of)⟩ : Head).size ((proveOn (((fill [] items).1).map of) (((1 + (((fr).toNat) % (((fill [] items).1).length)) : Nat) : Int))).1))))) (Pr.ex (Value.agg #[x33_0_4]))), (77, Pr.ifb (!((!decide ((((proveOn (((fill [] items).1).map of) (((1 + (((fr).toNat) % (((fill [] items).1).length)) : Nat) : Int))).2 : Nat) : Int) = ((0 : Nat) : Int))) || (!(checksOn (⟨(((((fill [] items).1).take (1 + (((fr).toNat) % (((fill [] items).1).length)))).length : Nat) : Int), root ((((fill [] items).1).take (1 + (((fr).toNat) % (((fill [] items).1).length)))).map of)⟩ : Head).root (⟨(((((fill [] items).1).take (1 + (((fr).toNat) % (((fill [] items).1).length)))).length : Nat) : Int), root ((((fill [] items).1).take (1 + (((fr).toNat) % (((fill [] items).1).length)))).map of)⟩ : Head).size (⟨((((fill [] items).1).length : Nat) : Int), root (((fill [] items).1).map of)⟩ : Head).root (⟨((((fill [] items).1).length : Nat) : Int), root (((fill [] items).1).map of)⟩ : Head).size ((proveOn (((fill [] items).1).map of) (((1 + (((fr).toNat) % (((fill [] items).1).length)) : Nat) : Int))).1))))) (Pr.ex (Value.agg #[i64 (((((fill [] items).1).take (1 + (((fr).toNat) % (((fill [] items).1).length)))).length : Nat) : Int), w32 (root ((((fill [] items).1).take (1 + (((fr).toNat) % (((fill [] items).1).length)))).map of)).a, w32 (root ((((fill [] items).1).take (1 + (((fr).toNat) % (((fill [] items).1).length)))).map of)).b, w32 (root ((((fill [] items).1).take (1 + (((fr).toNat) % (((fill [] items).1).length)))).map of)).c, w32 (root ((((fill [] items).1).take (1 + (((fr).toNat) % (((fill [] items).1).length)))).map of)).d]))), (78, Pr.ifb (!((!decide ((((proveOn (((fill [] items).1).map of) (((1 + (((fr).toNat) % (((fill [] items).1).length)) : Nat) : Int))).2 : Nat) : Int) = ((0 : Nat) : Int))) || (!(checksOn (⟨(((((fill [] items).1).take (1 + (((fr).toNat) % (((fill [] items).1).length)))).length : Nat) : Int), root ((((fill [] items).1).take (1 + (((fr).toNat) % (((fill [] items).1).length)))).map of)⟩ : Head).root (⟨(((((fill [] items).1).take (1 + (((fr).toNat) % (((fill [] items).1).length)))).length : Nat) : Int), root ((((fill [] items).1).take (1 + (((fr).toNat) % (((fill [] items).1).length)))).map of)⟩ : Head).size (⟨((((fill [] items).1).length : Nat) : Int), root (((fill [] items).1).map of)⟩ : Head).root (⟨((((fill [] items).1).length : Nat) : Int), root (((fill [] items).1).map of)⟩ : Head).size ((proveOn (((fill [] items).1).map of) (((1 + (((fr).toNat) % (((fill [] items).1).length)) : Nat) : Int))).1))))) (Pr.ex (i64 ((lost ((fill [] items).1) (⟨(((((fill [] items).1).take (1 + (((fr).toNat) % (((fill [] items).1).length)))).length : Nat) : Int), root ((((fill [] items).1).take (1 + (((fr).toNat) % (((fill [] items).1).length)))).map of)⟩ : Head) : Nat) : Int)))), (79, Pr.ifb (!((!decide ((((proveOn (((fill [] items).1).map of) (((1 + (((fr).toNat) % (((fill [] items).1).length)) : Nat) : Int))).2 : Nat) : Int) = ((0 : Nat) : Int))) || (!(checksOn (⟨(((((fill [] items).1).take (1 + (((fr).toNat) % (((fill [] items).1).length)))).length : Nat) : Int), root ((((fill [] items).1).take (1 + (((fr).toNat) % (((fill [] items).1).length)))).map of)⟩ : Head).root (⟨(((((fill [] items).1).take (1 + (((fr).toNat) % (((fill [] items).1).length)))).length : Nat) : Int), root ((((fill [] items).1).take (1 + (((fr).toNat) % (((fill [] items).1).length)))).map of)⟩ : Head).size (⟨((((fill [] items).1).length : Nat) : Int), root (((fill [] items).1).map of)⟩ : Head).root (⟨((((fill [] items).1).length : Nat) : Int), root (((fill [] items).1).map of)⟩ : Head).size ((proveOn (((fill [] items).1).map of) (((1 + (((fr).toNat) % (((fill [] items).1).length)) : Nat) : Int))).1))))) (Pr.ex (Value.bool (!decide (((lost ((fill [] items).1) (⟨(((((fill [] items).1).take (1 + (((fr).toNat) % (((fill [] items).1).length)))).length : Nat) : Int), root ((((fill [] items).1).take (1 + (((fr).toNat) % (((fill [] items).1).length)))).map of)⟩ : Head) : Nat) : Int) = ((0 : Nat) : Int)))))), (80, Pr.ex (Value.bool (((!decide ((((proveOn (((fill [] items).1).map of) (((1 + (((fr).toNat) % (((fill [] items).1).length)) : Nat) : Int))).2 : Nat) : Int) = ((0 : Nat) : Int))) || (!(checksOn (⟨(((((fill [] items).1).take (1 + (((fr).toNat) % (((fill [] items).1).length)))).length : Nat) : Int), root ((((fill [] items).1).take (1 + (((fr).toNat) % (((fill [] items).1).length)))).map of)⟩ : Head).root (⟨(((((fill [] items).1).take (1 + (((fr).toNat) % (((fill [] items).1).length)))).length : Nat) : Int), root ((((fill [] items).1).take (1 + (((fr).toNat) % (((fill [] items).1).length)))).map of)⟩ : Head).size (⟨((((fill [] items).1).length : Nat) : Int), root (((fill [] items).1).map of)⟩ : Head).root (⟨((((fill [] items).1).length : Nat) : Int), root (((fill [] items).1).map of)⟩ : Head).size ((proveOn (((fill [] items).1).map of) (((1 + (((fr).toNat) % (((fill [] items).1).length)) : Nat) : Int))).1)))) || (!decide (((lost ((fill [] items).1) (⟨(((((fill [] items).1).take (1 + (((fr).toNat) % (((fill [] items).1).length)))).length : Nat) : Int), root ((((fill [] items).1).take (1 + (((fr).toNat) % (((fill [] items).1).length)))).map of)⟩ : Head) : Nat) : Int) = ((0 : Nat) : Int))))))] 15 hN_15 hD_15 (by kernel_rfl) (by kernel_rfl) ?_ ?_
 refine Asks.cons ?_ (Asks.cons ?_ (Asks.cons ?_ (Asks.cons ?_ (Asks.cons ?_ (Asks.cons ?_ (Asks.cons ?_ (Asks.cons ?_ (Asks.cons ?_ (Asks.cons ?_ (Asks.cons ?_ (Asks.cons ?_ (Asks.cons ?_ (Asks.cons ?_ (Asks.cons ?_ (Asks.zero _)))))))))))))))
 exact Ask.plain rfl rfl fun aq wq hNq hO hR hT => does_move (V := i64 (((proveOn (((fill [] items).1).map of) (((1 + (((fr).toNat) % (((fill [] items).1).length)) : Nat) : Int))).2 : Nat) : Int)) ((hO 13 rfl).trans s13_15) ⟨Ext.refl _, rfl⟩
 exact Ask.plain rfl rfl fun aq wq hNq hO hR hT => does_neq (a := (((proveOn (((fill [] items).1).map of) (((1 + (((fr).toNat) % (((fill [] items).1).length)) : Nat) : Int))).2 : Nat) : Int)) (b := ((0 : Nat) : Int)) (hT 66 rfl rfl) rfl ⟨Ext.refl _, rfl⟩
 exact Ask.plain rfl rfl fun aq wq hNq hO hR hT => does_move (V := Value.bool (!decide ((((proveOn (((fill [] items).1).map of) (((1 + (((fr).toNat) % (((fill [] items).1).length)) : Nat) : Int))).2 : Nat) : Int) = ((0 : Nat) : Int)))) (hT 67 rfl rfl) ⟨Ext.refl _, rfl⟩
 refine Ask.guarded (B := !decide ((((proveOn (((fill [] items).1).map of) (((1 + (((fr).toNat) % (((fill [] items).1).length)) : Nat) : Int))).2 : Nat) : Int) = ((0 : Nat) : Int))) (want := false) (t := 68) rfl rfl rfl rfl (by decide) (fun aq wq hO hR hT => hT 68 rfl rfl) (fun hG aq wq hNq hO hR hT => ?_) (fun hno _ => fun hc => absurd (bn hc) hno)
 replace hG := nb hG
 exact does_loadD (o := 0) (n := 5) (mid := [i64 (((((fill [] items).1).take (1 + (((fr).toNat) % (((fill [] items).1).length)))).length : Nat) : Int), w32 (root ((((fill [] items).1).take (1 + (((fr).toNat) % (((fill [] items).1).length)))).map of)).a, w32 (root ((((fill [] items).1).take (1 + (((fr).toNat) % (((fill [] items).1).length)))).map of)).b, w32 (root ((((fill [] items).1).take (1 + (((fr).toNat) % (((fill [] items).1).length)))).map of)).c, w32 (root ((((fill [] items).1).take (1 + (((fr).toNat) % (((fill [] items).1).length)))).map of)).d]) ((hO 10 rfl).trans s10_15) (hbb10_15.ext' hR) rfl rfl (Nat.le_of_ble_eq_true rfl) row_29 rfl ⟨Ext.refl _, fun _ => rfl⟩
 refine Ask.guarded (B := !decide ((((proveOn (((fill [] items).1).map of) (((1 + (((fr).toNat) % (((fill [] items).1).length)) : Nat) : Int))).2 : Nat) : Int) = ((0 : Nat) : Int))) (want := false) (t := 68) rfl rfl rfl rfl (by decide) (fun aq wq hO hR hT => hT 68 rfl rfl) (fun hG aq wq hNq hO hR hT => ?_) (fun hno _ => fun hc => absurd (bn hc) hno)
 replace hG := nb hG
 exact does_loadD (o := 0) (n := 5) (mid := [i64 ((((fill [] items).1).length : Nat) : Int), w32 (root (((fill [] items).1).map of)).a, w32 (root (((fill [] items).1).map of)).b, w32 (root (((fill [] items).1).map of)).c, w32 (root (((fill [] items).1).map of)).d]) ((hO 11 rfl).trans s11_15) (hbb11_15.ext' hR) rfl rfl (Nat.le_of_ble_eq_true rfl) row_29 rfl ⟨Ext.refl _, fun _ => rfl⟩
 refine Ask.guarded (B := !decide ((((proveOn (((fill [] items).1).map of) (((1 + (((fr).toNat) % (((fill [] items).1).length)) : Nat) : Int))).2 : Nat) : Int) = ((0 : Nat) : Int))) (want := false) (t := 68) rfl rfl rfl rfl (by decide) (fun aq wq hO hR hT => hT 68 rfl rfl) (fun hG aq wq hNq hO hR hT => ?_) (fun hno _ => fun hc => absurd (bn hc) hno)
 replace hG := nb hG
 exact does_move (V := x12) ((hO 12 rfl).trans s12_15) ⟨Ext.refl _, fun _ => rfl⟩
 refine Ask.guarded (B := !decide ((((proveOn (((fill [] items).1).map of) (((1 + (((fr).toNat) % (((fill [] items).1).length)) : Nat) : Int))).2 : Nat) : Int) = ((0 : Nat) : Int))) (want := false) (t := 68) rfl rfl rfl rfl (by decide) (fun aq wq hO hR hT => hT 68 rfl rfl) (fun hG aq wq hNq hO hR hT => ?_) (fun hno _ => fun hc => absurd (bn hc) hno)
 replace hG := nb hG
 exact does_ret (vs := #[Value.agg #[i64 (((((fill [] items).1).take (1 + (((fr).toNat) % (((fill [] items).1).length)))).length : Nat) : Int), w32 (root ((((fill [] items).1).take (1 + (((fr).toNat) % (((fill [] items).1).length)))).map of)).a, w32 (root ((((fill [] items).1).take (1 + (((fr).toNat) % (((fill [] items).1).length)))).map of)).b, w32 (root ((((fill [] items).1).take (1 + (((fr).toNat) % (((fill [] items).1).length)))).map of)).c, w32 (root ((((fill [] items).1).take (1 + (((fr).toNat) % (((fill [] items).1).length)))).map of)).d], Value.agg #[i64 ((((fill [] items).1).length : Nat) : Int), w32 (root (((fill [] items).1).map of)).a, w32 (root (((fill [] items).1).map of)).b, w32 (root (((fill [] items).1).map of)).c, w32 (root (((fill [] items).1).map of)).d], x12]) call_25 (args3 (hT 69 rfl rfl hG) (hT 70 rfl rfl hG) (hT 71 rfl rfl hG)) rfl ((headOn_ (⟨(((((fill [] items).1).take (1 + (((fr).toNat) % (((fill [] items).1).length)))).length : Nat) : Int), root ((((fill [] items).1).take (1 + (((fr).toNat) % (((fill [] items).1).length)))).map of)⟩ : Head) (⟨((((fill [] items).1).length : Nat) : Int), root (((fill [] items).1).map of)⟩ : Head) ((proveOn (((fill [] items).1).map of) (((1 + (((fr).toNat) % (((fill [] items).1).length)) : Nat) : Int))).1) (x12) wq (hL.ext (hE_15.trans hR)) ((hsx12_15.ext' hR).wide (Nat.zero_le _) (.inl rfl)) (Nat.le_trans goes_len2 (by rw [List.length_map]; omega))).mono fun v w2 h => ⟨h.2, fun _ => h.1⟩)
 refine Ask.guarded (B := !decide ((((proveOn (((fill [] items).1).map of) (((1 + (((fr).toNat) % (((fill [] items).1).length)) : Nat) : Int))).2 : Nat) : Int) = ((0 : Nat) : Int))) (want := false) (t := 68) rfl rfl rfl rfl (by decide) (fun aq wq hO hR hT => hT 68 rfl rfl) (fun hG aq wq hNq hO hR hT => ?_) (fun hno _ => fun hc => absurd (bn hc) hno)
 replace hG := nb hG
 exact does_not (B := checksOn (⟨(((((fill [] items).1).take (1 + (((fr).toNat) % (((fill [] items).1).length)))).length : Nat) : Int), root ((((fill [] items).1).take (1 + (((fr).toNat) % (((fill [] items).1).length)))).map of)⟩ : Head).root (⟨(((((fill [] items).1).take (1 + (((fr).toNat) % (((fill [] items).1).length)))).length : Nat) : Int), root ((((fill [] items).1).take (1 + (((fr).toNat) % (((fill [] items).1).length)))).map of)⟩ : Head).size (⟨((((fill [] items).1).length : Nat) : Int), root (((fill [] items).1).map of)⟩ : Head).root (⟨((((fill [] items).1).length : Nat) : Int), root (((fill [] items).1).map of)⟩ : Head).size ((proveOn (((fill [] items).1).map of) (((1 + (((fr).toNat) % (((fill [] items).1).length)) : Nat) : Int))).1)) (hT 72 rfl rfl hG) ⟨Ext.refl _, fun _ => rfl⟩
 exact Ask.plain rfl rfl fun aq wq hNq hO hR hT => does_or (B := !decide ((((proveOn (((fill [] items).1).map of) (((1 + (((fr).toNat) % (((fill [] items).1).length)) : Nat) : Int))).2 : Nat) : Int) = ((0 : Nat) : Int))) (X := !(checksOn (⟨(((((fill [] items).1).take (1 + (((fr).toNat) % (((fill [] items).1).length)))).length : Nat) : Int), root ((((fill [] items).1).take (1 + (((fr).toNat) % (((fill [] items).1).length)))).map of)⟩ : Head).root (⟨(((((fill [] items).1).take (1 + (((fr).toNat) % (((fill [] items).1).length)))).length : Nat) : Int), root ((((fill [] items).1).take (1 + (((fr).toNat) % (((fill [] items).1).length)))).map of)⟩ : Head).size (⟨((((fill [] items).1).length : Nat) : Int), root (((fill [] items).1).map of)⟩ : Head).root (⟨((((fill [] items).1).length : Nat) : Int), root (((fill [] items).1).map of)⟩ : Head).size ((proveOn (((fill [] items).1).map of) (((1 + (((fr).toNat) % (((fill [] items).1).length)) : Nat) : Int))).1))) (hT 68 rfl rfl) rfl (fun hB => (hT 73 rfl rfl (nb hB))) ⟨Ext.refl _, rfl⟩
 exact Ask.plain rfl rfl fun aq wq hNq hO hR hT => does_move (V := Value.bool ((!decide ((((proveOn (((fill [] items).1).map of) (((1 + (((fr).toNat) % (((fill [] items).1).length)) : Nat) : Int))).2 : Nat) : Int) = ((0 : Nat) : Int))) || (!(checksOn (⟨(((((fill [] items).1).take (1 + (((fr).toNat) % (((fill [] items).1).length)))).length : Nat) : Int), root ((((fill [] items).1).take (1 + (((fr).toNat) % (((fill [] items).1).length)))).map of)⟩ : Head).root (⟨(((((fill [] items).1).take (1 + (((fr).toNat) % (((fill [] items).1).length)))).length : Nat) : Int), root ((((fill [] items).1).take (1 + (((fr).toNat) % (((fill [] items).1).length)))).map of)⟩ : Head).size (⟨((((fill [] items).1).length : Nat) : Int), root (((fill [] items).1).map of)⟩ : Head).root (⟨((((fill [] items).1).length : Nat) : Int), root (((fill [] items).1).map of)⟩ : Head).size ((proveOn (((fill [] items).1).map of) (((1 + (((fr).toNat) % (((fill [] items).1).length)) : Nat) : Int))).1))))) (hT 74 rfl rfl) ⟨Ext.refl _, rfl⟩
 refine Ask.guarded (B := (!decide ((((proveOn (((fill [] items).1).map of) (((1 + (((fr).toNat) % (((fill [] items).1).length)) : Nat) : Int))).2 : Nat) : Int) = ((0 : Nat) : Int))) || (!(checksOn (⟨(((((fill [] items).1).take (1 + (((fr).toNat) % (((fill [] items).1).length)))).length : Nat) : Int), root ((((fill [] items).1).take (1 + (((fr).toNat) % (((fill [] items).1).length)))).map of)⟩ : Head).root (⟨(((((fill [] items).1).take (1 + (((fr).toNat) % (((fill [] items).1).length)))).length : Nat) : Int), root ((((fill [] items).1).take (1 + (((fr).toNat) % (((fill [] items).1).length)))).map of)⟩ : Head).size (⟨((((fill [] items).1).length : Nat) : Int), root (((fill [] items).1).map of)⟩ : Head).root (⟨((((fill [] items).1).length : Nat) : Int), root (((fill [] items).1).map of)⟩ : Head).size ((proveOn (((fill [] items).1).map of) (((1 + (((fr).toNat) % (((fill [] items).1).length)) : Nat) : Int))).1)))) (want := false) (t := 75) rfl rfl rfl rfl (by decide) (fun aq wq hO hR hT => hT 75 rfl rfl) (fun hG aq wq hNq hO hR hT => ?_) (fun hno _ => fun hc => absurd (bn hc) hno)
 replace hG := nb hG
 exact does_loadD (o := 0) (n := 1) (mid := [x33_0_4]) ((hO 7 rfl).trans s7_15) (hbb7_15.ext' hR) rfl rfl (Nat.le_of_ble_eq_true rfl) row_24 rfl ⟨Ext.refl _, fun _ => rfl⟩
 refine Ask.guarded (B := (!decide ((((proveOn (((fill [] items).1).map of) (((1 + (((fr).toNat) % (((fill [] items).1).length)) : Nat) : Int))).2 : Nat) : Int) = ((0 : Nat) : Int))) || (!(checksOn (⟨(((((fill [] items).1).take (1 + (((fr).toNat) % (((fill [] items).1).length)))).length : Nat) : Int), root ((((fill [] items).1).take (1 + (((fr).toNat) % (((fill [] items).1).length)))).map of)⟩ : Head).root (⟨(((((fill [] items).1).take (1 + (((fr).toNat) % (((fill [] items).1).length)))).length : Nat) : Int), root ((((fill [] items).1).take (1 + (((fr).toNat) % (((fill [] items).1).length)))).map of)⟩ : Head).size (⟨((((fill [] items).1).length : Nat) : Int), root (((fill [] items).1).map of)⟩ : Head).root (⟨((((fill [] items).1).length : Nat) : Int), root (((fill [] items).1).map of)⟩ : Head).size ((proveOn (((fill [] items).1).map of) (((1 + (((fr).toNat) % (((fill [] items).1).length)) : Nat) : Int))).1)))) (want := false) (t := 75) rfl rfl rfl rfl (by decide) (fun aq wq hO hR hT => hT 75 rfl rfl) (fun hG aq wq hNq hO hR hT => ?_) (fun hno _ => fun hc => absurd (bn hc) hno)
 replace hG := nb hG
 exact does_loadD (o := 0) (n := 5) (mid := [i64 (((((fill [] items).1).take (1 + (((fr).toNat) % (((fill [] items).1).length)))).length : Nat) : Int), w32 (root ((((fill [] items).1).take (1 + (((fr).toNat) % (((fill [] items).1).length)))).map of)).a, w32 (root ((((fill [] items).1).take (1 + (((fr).toNat) % (((fill [] items).1).length)))).map of)).b, w32 (root ((((fill [] items).1).take (1 + (((fr).toNat) % (((fill [] items).1).length)))).map of)).c, w32 (root ((((fill [] items).1).take (1 + (((fr).toNat) % (((fill [] items).1).length)))).map of)).d]) ((hO 10 rfl).trans s10_15) (hbb10_15.ext' hR) rfl rfl (Nat.le_of_ble_eq_true rfl) row_29 rfl ⟨Ext.refl _, fun _ => rfl⟩
 refine Ask.guarded (B := (!decide ((((proveOn (((fill [] items).1).map of) (((1 + (((fr).toNat) % (((fill [] items).1).length)) : Nat) : Int))).2 : Nat) : Int) = ((0 : Nat) : Int))) || (!(checksOn (⟨(((((fill [] items).1).take (1 + (((fr).toNat) % (((fill [] items).1).length)))).length : Nat) : Int), root ((((fill [] items).1).take (1 + (((fr).toNat) % (((fill [] items).1).length)))).map of)⟩ : Head).root (⟨(((((fill [] items).1).take (1 + (((fr).toNat) % (((fill [] items).1).length)))).length : Nat) : Int), root ((((fill [] items).1).take (1 + (((fr).toNat) % (((fill [] items).1).length)))).map of)⟩ : Head).size (⟨((((fill [] items).1).length : Nat) : Int), root (((fill [] items).1).map of)⟩ : Head).root (⟨((((fill [] items).1).length : Nat) : Int), root (((fill [] items).1).map of)⟩ : Head).size ((proveOn (((fill [] items).1).map of) (((1 + (((fr).toNat) % (((fill [] items).1).length)) : Nat) : Int))).1)))) (want := false) (t := 75) rfl rfl rfl rfl (by decide) (fun aq wq hO hR hT => hT 75 rfl rfl) (fun hG aq wq hNq hO hR hT => ?_) (fun hno _ => fun hc => absurd (bn hc) hno)
 replace hG := nb hG
 exact does_ret (vs := #[Value.agg #[x33_0_4], Value.agg #[i64 (((((fill [] items).1).take (1 + (((fr).toNat) % (((fill [] items).1).length)))).length : Nat) : Int), w32 (root ((((fill [] items).1).take (1 + (((fr).toNat) % (((fill [] items).1).length)))).map of)).a, w32 (root ((((fill [] items).1).take (1 + (((fr).toNat) % (((fill [] items).1).length)))).map of)).b, w32 (root ((((fill [] items).1).take (1 + (((fr).toNat) % (((fill [] items).1).length)))).map of)).c, w32 (root ((((fill [] items).1).take (1 + (((fr).toNat) % (((fill [] items).1).length)))).map of)).d]]) call_14 (args2 (hT 76 rfl rfl hG) (hT 77 rfl rfl hG)) rfl ((lost_ ((fill [] items).1) (x33_0_4) (⟨(((((fill [] items).1).take (1 + (((fr).toNat) % (((fill [] items).1).length)))).length : Nat) : Int), root ((((fill [] items).1).take (1 + (((fr).toNat) % (((fill [] items).1).length)))).map of)⟩ : Head) wq (hL.ext (hE_15.trans hR)) ((hsx33_0_4_15.ext' hR).wide (Nat.zero_le _) (.inl rfl)) hs1 hn1).mono fun v w2 h => ⟨h.2, fun _ => h.1⟩)
 refine Ask.guarded (B := (!decide ((((proveOn (((fill [] items).1).map of) (((1 + (((fr).toNat) % (((fill [] items).1).length)) : Nat) : Int))).2 : Nat) : Int) = ((0 : Nat) : Int))) || (!(checksOn (⟨(((((fill [] items).1).take (1 + (((fr).toNat) % (((fill [] items).1).length)))).length : Nat) : Int), root ((((fill [] items).1).take (1 + (((fr).toNat) % (((fill [] items).1).length)))).map of)⟩ : Head).root (⟨(((((fill [] items).1).take (1 + (((fr).toNat) % (((fill [] items).1).length)))).length : Nat) : Int), root ((((fill [] items).1).take (1 + (((fr).toNat) % (((fill [] items).1).length)))).map of)⟩ : Head).size (⟨((((fill [] items).1).length : Nat) : Int), root (((fill [] items).1).map of)⟩ : Head).root (⟨((((fill [] items).1).length : Nat) : Int), root (((fill [] items).1).map of)⟩ : Head).size ((proveOn (((fill [] items).1).map of) (((1 + (((fr).toNat) % (((fill [] items).1).length)) : Nat) : Int))).1)))) (want := false) (t := 75) rfl rfl rfl rfl (by decide) (fun aq wq hO hR hT => hT 75 rfl rfl) (fun hG aq wq hNq hO hR hT => ?_) (fun hno _ => fun hc => absurd (bn hc) hno)
 replace hG := nb hG
 exact does_neq (a := ((lost ((fill [] items).1) (⟨(((((fill [] items).1).take (1 + (((fr).toNat) % (((fill [] items).1).length)))).length : Nat) : Int), root ((((fill [] items).1).take (1 + (((fr).toNat) % (((fill [] items).1).length)))).map of)⟩ : Head) : Nat) : Int)) (b := ((0 : Nat) : Int)) (hT 78 rfl rfl hG) rfl ⟨Ext.refl _, fun _ => rfl⟩
 exact Ask.plain rfl rfl fun aq wq hNq hO hR hT => does_or (B := (!decide ((((proveOn (((fill [] items).1).map of) (((1 + (((fr).toNat) % (((fill [] items).1).length)) : Nat) : Int))).2 : Nat) : Int) = ((0 : Nat) : Int))) || (!(checksOn (⟨(((((fill [] items).1).take (1 + (((fr).toNat) % (((fill [] items).1).length)))).length : Nat) : Int), root ((((fill [] items).1).take (1 + (((fr).toNat) % (((fill [] items).1).length)))).map of)⟩ : Head).root (⟨(((((fill [] items).1).take (1 + (((fr).toNat) % (((fill [] items).1).length)))).length : Nat) : Int), root ((((fill [] items).1).take (1 + (((fr).toNat) % (((fill [] items).1).length)))).map of)⟩ : Head).size (⟨((((fill [] items).1).length : Nat) : Int), root (((fill [] items).1).map of)⟩ : Head).root (⟨((((fill [] items).1).length : Nat) : Int), root (((fill [] items).1).map of)⟩ : Head).size ((proveOn (((fill [] items).1).map of) (((1 + (((fr).toNat) % (((fill [] items).1).length)) : Nat) : Int))).1)))) (X := !decide (((lost ((fill [] items).1) (⟨(((((fill [] items).1).take (1 + (((fr).toNat) % (((fill [] items).1).length)))).length : Nat) : Int), root ((((fill [] items).1).take (1 + (((fr).toNat) % (((fill [] items).1).length)))).map of)⟩ : Head) : Nat) : Int) = ((0 : Nat) : Int))) (hT 75 rfl rfl) rfl (fun hB => (hT 79 rfl rfl (nb hB))) ⟨Ext.refl _, rfl⟩
 intro a16 wd16 hN_16 hD_16 hO hR hA hU
 obtain ⟨_, _, _, _, _, _, _, _, _, _, _, _, _, _, t80, _⟩ := hA
 have hE_16 := hE_15.trans hR
 have s2_16 := (hO 2 rfl).trans s2_15
 have s7_16 := (hO 7 rfl).trans s7_15
 have s9_16 := (hO 9 rfl).trans s9_15
 have hbb7_16 := hbb7_15.ext' hR
 have hbb10_16 := hbb10_15.ext' hR
 have hbb11_16 := hbb11_15.ext' hR
 have hsx1_16 := hsx1_15.ext' hR
 have hsx33_0_4_16 := hsx33_0_4_15.ext' hR
 have hsx12_16 := hsx12_15.ext' hR
 have hox12_16 := hox12_15.ext' hR
 have s80_16 : get a16 80 = Value.bool (((!decide ((((proveOn (((fill [] items).1).map of) (((1 + (((fr).toNat) % (((fill [] items).1).length)) : Nat) : Int))).2 : Nat) : Int) = ((0 : Nat) : Int))) || (!(checksOn (⟨(((((fill [] items).1).take (1 + (((fr).toNat) % (((fill [] items).1).length)))).length : Nat) : Int), root ((((fill [] items).1).take (1 + (((fr).toNat) % (((fill [] items).1).length)))).map of)⟩ : Head).root (⟨(((((fill [] items).1).take (1 + (((fr).toNat) % (((fill [] items).1).length)))).length : Nat) : Int), root ((((fill [] items).1).take (1 + (((fr).toNat) % (((fill [] items).1).length)))).map of)⟩ : Head).size (⟨((((fill [] items).1).length : Nat) : Int), root (((fill [] items).1).map of)⟩ : Head).root (⟨((((fill [] items).1).length : Nat) : Int), root (((fill [] items).1).map of)⟩ : Head).size ((proveOn (((fill [] items).1).map of) (((1 + (((fr).toNat) % (((fill [] items).1).length)) : Nat) : Int))).1)))) || (!decide (((lost ((fill [] items).1) (⟨(((((fill [] items).1).take (1 + (((fr).toNat) % (((fill [] items).1).length)))).length : Nat) : Int), root ((((fill [] items).1).take (1 + (((fr).toNat) % (((fill [] items).1).length)))).map of)⟩ : Head) : Nat) : Int) = ((0 : Nat) : Int)))) := t80
 clear hE_15 hN_15 hD_15 s2_15 s7_15 s9_15 s10_15 s11_15 s12_15 s13_15 hbb7_15 hbb10_15 hbb11_15 hsx1_15 hsx33_0_4_15 hsx12_15 hox12_15
 refine tail_nil ?_
 refine wp_if (B := ((!decide ((((proveOn (((fill [] items).1).map of) (((1 + (((fr).toNat) % (((fill [] items).1).length)) : Nat) : Int))).2 : Nat) : Int) = ((0 : Nat) : Int))) || (!(checksOn (⟨(((((fill [] items).1).take (1 + (((fr).toNat) % (((fill [] items).1).length)))).length : Nat) : Int), root ((((fill [] items).1).take (1 + (((fr).toNat) % (((fill [] items).1).length)))).map of)⟩ : Head).root (⟨(((((fill [] items).1).take (1 + (((fr).toNat) % (((fill [] items).1).length)))).length : Nat) : Int), root ((((fill [] items).1).take (1 + (((fr).toNat) % (((fill [] items).1).length)))).map of)⟩ : Head).size (⟨((((fill [] items).1).length : Nat) : Int), root (((fill [] items).1).map of)⟩ : Head).root (⟨((((fill [] items).1).length : Nat) : Int), root (((fill [] items).1).map of)⟩ : Head).size ((proveOn (((fill [] items).1).map of) (((1 + (((fr).toNat) % (((fill [] items).1).length)) : Nat) : Int))).1)))) || (!decide (((lost ((fill [] items).1) (⟨(((((fill [] items).1).take (1 + (((fr).toNat) % (((fill [] items).1).length)))).length : Nat) : Int), root ((((fill [] items).1).take (1 + (((fr).toNat) % (((fill [] items).1).length)))).map of)⟩ : Head) : Nat) : Int) = ((0 : Nat) : Int)))) s80_16 (fun hc2 => ?_) (fun hc2 => ?_)
 have hgo := headGoes_law (items := (fill [] items).1) (n := 1 + fr.toNat % (fill [] items).1.length) (by omega) (by omega) (by omega); rw [Bool.and_eq_true] at hgo; have hlp := lost_part (l := (fill [] items).1) (n := 1 + fr.toNat % (fill [] items).1.length) (by omega); rw [hgo.2, hlp, of_decide_eq_true hgo.1] at hc2; simp at hc2
 refine wp_skip ?_
 refine wp_seq ?_
 refine region_lex [] [(81, Pr.ex (w8 (pl))), (82, Pr.ex (i64 (((pl).toNat : Nat) : Int))), (83, Pr.ex (i64 ((1 + (((fr).toNat) % (((fill [] items).1).length)) : Nat) : Int))), (84, Pr.ex (i64 ((((pl).toNat) % (1 + (((fr).toNat) % (((fill [] items).1).length))) : Nat) : Int))), (14, Pr.ex (i64 ((((pl).toNat) % (1 + (((fr).toNat) % (((fill [] items).1).length))) : Nat) : Int)))] 5 hN_16 hD_16 (by kernel_rfl) (by kernel_rfl) ?_ ?_
 refine Asks.cons ?_ (Asks.cons ?_ (Asks.cons ?_ (Asks.cons ?_ (Asks.cons ?_ (Asks.zero _)))))
 exact Ask.plain rfl rfl fun aq wq hNq hO hR hT => does_move (V := w8 (pl)) ((hO 2 rfl).trans s2_16) ⟨Ext.refl _, rfl⟩
 exact Ask.plain rfl rfl fun aq wq hNq hO hR hT => does_conv ⟨_, Tryd.underlying5⟩ Tryd.underlying3 (hT 81 rfl rfl) (conv_w_i8 _) ⟨Ext.refl _, rfl⟩
 exact Ask.plain rfl rfl fun aq wq hNq hO hR hT => does_move (V := i64 ((1 + (((fr).toNat) % (((fill [] items).1).length)) : Nat) : Int)) ((hO 9 rfl).trans s9_16) ⟨Ext.refl _, rfl⟩
 exact Ask.plain rfl rfl fun aq wq hNq hO hR hT => does_rem (k := .i64) (a := (((pl).toNat : Nat) : Int)) (b := ((1 + (((fr).toNat) % (((fill [] items).1).length)) : Nat) : Int)) (r := ((((pl).toNat) % (1 + (((fr).toNat) % (((fill [] items).1).length))) : Nat) : Int)) (hT 82 rfl rfl) (hT 83 rfl rfl) (by omega) (by omega) (by omega) ⟨Ext.refl _, rfl⟩
 exact Ask.plain rfl rfl fun aq wq hNq hO hR hT => does_assign (V := i64 ((((pl).toNat) % (1 + (((fr).toNat) % (((fill [] items).1).length))) : Nat) : Int)) (hT 84 rfl rfl) ⟨Ext.refl _, rfl⟩
 intro a17 wd17 hN_17 hD_17 hO hR hA hU
 obtain ⟨_, _, _, _, t14, _⟩ := hA
 have hE_17 := hE_16.trans hR
 have s7_17 := (hO 7 rfl).trans s7_16
 have s9_17 := (hO 9 rfl).trans s9_16
 have hbb7_17 := hbb7_16.ext' hR
 have hbb10_17 := hbb10_16.ext' hR
 have hbb11_17 := hbb11_16.ext' hR
 have hsx1_17 := hsx1_16.ext' hR
 have hsx33_0_4_17 := hsx33_0_4_16.ext' hR
 have hsx12_17 := hsx12_16.ext' hR
 have hox12_17 := hox12_16.ext' hR
 have s14_17 : get a17 14 = i64 ((((pl).toNat) % (1 + (((fr).toNat) % (((fill [] items).1).length))) : Nat) : Int) := t14
 clear hE_16 hN_16 hD_16 s2_16 s7_16 s9_16 s80_16 hbb7_16 hbb10_16 hbb11_16 hsx1_16 hsx33_0_4_16 hsx12_16 hox12_16
 refine tail_nil ?_
 refine wp_seq ?_
 refine region_lex [] [(85, Pr.own' Str wd17.heap.size 9 ([])), (86, Pr.ex (Value.pointer (some ⟨b7, 0, none⟩))), (87, Pr.ex (x33_0_4)), (88, Pr.ex (i64 ((1 + (((fr).toNat) % (((fill [] items).1).length)) : Nat) : Int))), (89, Pr.sl' Str 0 0 (((fill [] items).1).take (1 + (((fr).toNat) % (((fill [] items).1).length)))))] 5 hN_17 hD_17 (by kernel_rfl) (by kernel_rfl) ?_ ?_
 refine Asks.cons ?_ (Asks.cons ?_ (Asks.cons ?_ (Asks.cons ?_ (Asks.cons ?_ (Asks.zero _)))))
 exact Ask.plain rfl rfl fun aq wq hNq hO hR hT => does_slice0 (T := Str) app_22 rfl (fun v w2 he _ ho => ⟨he, OwnT.base ho hR.size'⟩)
 exact Ask.plain rfl rfl fun aq wq hNq hO hR hT => does_field (o' := 0) fld_24_0 ((hO 7 rfl).trans s7_17) rfl ⟨Ext.refl _, rfl⟩
 exact Ask.plain rfl rfl fun aq wq hNq hO hR hT => does_loadD1 (o := 0) (V := x33_0_4) (hT 86 rfl rfl) (hbb7_17.ext' hR) rfl one_22 ⟨Ext.refl _, rfl⟩
 exact Ask.plain rfl rfl fun aq wq hNq hO hR hT => does_move (V := i64 ((1 + (((fr).toNat) % (((fill [] items).1).length)) : Nat) : Int)) ((hO 9 rfl).trans s9_17) ⟨Ext.refl _, rfl⟩
 exact Ask.plain rfl rfl fun aq wq hNq hO hR hT => does_sliceHi (T := Str) (xs := (fill [] items).1) (k := ((1 + (((fr).toNat) % (((fill [] items).1).length)) : Nat) : Int)) sli_22 rfl (SlT.at (hT 87 rfl rfl) (hsx33_0_4_17.ext' hR)) (hT 88 rfl rfl) (by omega) (by omega) (fun v h => ⟨Ext.refl _, h⟩)
 intro a18 wd18 hN_18 hD_18 hO hR hA hU
 obtain ⟨t85, _, _, _, t89, _⟩ := hA
 have hE_18 := hE_17.trans hR
 have s7_18 := (hO 7 rfl).trans s7_17
 have s9_18 := (hO 9 rfl).trans s9_17
 have s14_18 := (hO 14 rfl).trans s14_17
 have hbb7_18 := hbb7_17.ext' hR
 have hbb10_18 := hbb10_17.ext' hR
 have hbb11_18 := hbb11_17.ext' hR
 have hsx1_18 := hsx1_17.ext' hR
 have hsx33_0_4_18 := hsx33_0_4_17.ext' hR
 have hsx12_18 := hsx12_17.ext' hR
 have hox12_18 := hox12_17.ext' hR
 obtain ⟨x85, s85_18⟩ : ∃ x, get a18 85 = x := ⟨_, rfl⟩
 replace t85 : OwnT Str wd17.heap.size 9 ([]) x85 wd18 := by rw [← s85_18]; exact t85
 have nbo_x85_b7 : x85.ownBlock ≠ some b7 := fun e => Nat.lt_irrefl _ (Nat.lt_of_lt_of_le hbb7_17.lt (OwnT.block_lt t85 e).1)
 have nbo_x85_b10 : x85.ownBlock ≠ some b10 := fun e => Nat.lt_irrefl _ (Nat.lt_of_lt_of_le hbb10_17.lt (OwnT.block_lt t85 e).1)
 have nbo_x85_b11 : x85.ownBlock ≠ some b11 := fun e => Nat.lt_irrefl _ (Nat.lt_of_lt_of_le hbb11_17.lt (OwnT.block_lt t85 e).1)
 have no_x85_x12 : ∀ k, x85.ownBlock = some k → x12.ownBlock ≠ some k := fun k e e' => Nat.lt_irrefl _ (Nat.lt_of_lt_of_le (OwnT.block_lt hox12_17 e').2 (OwnT.block_lt t85 e).1)
 have nz_x85_x33_0_4 := SlT.sep hsx33_0_4_17 t85
 have hsx85_18 := t85.sl.wide (Nat.zero_le _) (.inl rfl)
 have hox85_18 := OwnT.base t85 hE_17.size'
 obtain ⟨x89, s89_18⟩ : ∃ x, get a18 89 = x := ⟨_, rfl⟩
 replace t89 : SlT Str 0 0 (((fill [] items).1).take (1 + (((fr).toNat) % (((fill [] items).1).length)))) x89 wd18 := by rw [← s89_18]; exact t89
 have hsx89_18 := t89
 clear hE_17 hN_17 hD_17 s7_17 s9_17 s14_17 hbb7_17 hbb10_17 hbb11_17 hsx1_17 hsx33_0_4_17 hsx12_17 hox12_17
 refine tail_put rfl rfl hN_18 hD_18 (by decide) (does_appendA (T := Str) (base := w0.heap.size) (xs := []) (ys := ((fill [] items).1).take (1 + (((fr).toNat) % (((fill [] items).1).length)))) (v := x85) app_22 s85_18 hox85_18 (SlT.at s89_18 hsx89_18)  (by simp only [List.length_nil]; omega) (by simp only [List.length_nil]; omega) hE_18.size' (fun x90 wd19 hX hox90_19 hk a19 hN_19 hD_19 hv hO => ?_))
 have hE_19 := hE_18.since hX (fun b hb => Nat.le_trans (Nat.le_refl _) (OwnT.block_lt hox85_18 hb).1)
 have hbb7_19 := hbb7_18.ext hX nbo_x85_b7
 have nbo_x90_b7 : x90.ownBlock ≠ some b7 := fun e => (hk _ e).elim nbo_x85_b7 (fun h => Nat.lt_irrefl _ (Nat.lt_of_lt_of_le hbb7_18.lt h))
 have hbb10_19 := hbb10_18.ext hX nbo_x85_b10
 have nbo_x90_b10 : x90.ownBlock ≠ some b10 := fun e => (hk _ e).elim nbo_x85_b10 (fun h => Nat.lt_irrefl _ (Nat.lt_of_lt_of_le hbb10_18.lt h))
 have hbb11_19 := hbb11_18.ext hX nbo_x85_b11
 have nbo_x90_b11 : x90.ownBlock ≠ some b11 := fun e => (hk _ e).elim nbo_x85_b11 (fun h => Nat.lt_irrefl _ (Nat.lt_of_lt_of_le hbb11_18.lt h))
 have hsx1_19 := SlT.overOwn hsx1_18 hox85_18 hX
 have nz_x90_x33_0_4 := SlT.sepK hsx33_0_4_18 nz_x85_x33_0_4 hk
 have hsx33_0_4_19 := SlT.overF hsx33_0_4_18 hX nz_x85_x33_0_4
 have hox12_19 := OwnT.ext hox12_18 hX (fun k hk e => no_x85_x12 k e hk)
 have no_x90_x12 : ∀ k, x90.ownBlock = some k → x12.ownBlock ≠ some k := fun k e e' => (hk k e).elim (fun h => no_x85_x12 k h e') (fun h => Nat.lt_irrefl _ (Nat.lt_of_lt_of_le (OwnT.block_lt hox12_18 e').2 h))
 have hsx12_19 := hox12_19.sl.wide (Nat.zero_le _) (.inl rfl)
 have hsx90_19 := hox90_19.sl.wide (Nat.zero_le _) (.inl rfl)
 rw [List.nil_append] at hox90_19 hsx90_19
 have s90_19 := hv
 have s7_19 := (hO 7 rfl).trans s7_18
 have s9_19 := (hO 9 rfl).trans s9_18
 have s14_19 := (hO 14 rfl).trans s14_18
 clear hO hv hX hk hN_18 hD_18 hE_18 hbb7_18 hbb10_18 hbb11_18 hsx1_18 hsx33_0_4_18 hox12_18 s7_18 s9_18 s14_18 s85_18 s89_18
 refine tail_put rfl rfl hN_19 hD_19 (by decide) (does_assign (V := x90) s90_19 (fun a20 hN_20 hD_20 hv hO => ?_))
 have s15_20 := hv
 have s7_20 := (hO 7 rfl).trans s7_19
 have s9_20 := (hO 9 rfl).trans s9_19
 have s14_20 := (hO 14 rfl).trans s14_19
 clear hO hv hN_19 hD_19 s7_19 s9_19 s14_19 s90_19
 refine tail_nil ?_
 refine wp_seq ?_
 refine region_lex [] [(91, Pr.ex (x90)), (92, Pr.ex (i64 ((((pl).toNat) % (1 + (((fr).toNat) % (((fill [] items).1).length))) : Nat) : Int))), (93, Pr.ex (x90)), (94, Pr.ex (i64 ((((pl).toNat) % (1 + (((fr).toNat) % (((fill [] items).1).length))) : Nat) : Int))), (95, Pr.pt' 0 0 [str (y)]), (96, Pr.ex (str (y))), (97, Pr.ex (str (y ++ (([33] : List UInt8))))), (98, Pr.ex (elAddr x90 ((((pl).toNat) % (1 + (((fr).toNat) % (((fill [] items).1).length))))) 1))] 8 hN_20 hD_20 (by kernel_rfl) (by kernel_rfl) ?_ ?_
 refine Asks.cons ?_ (Asks.cons ?_ (Asks.cons ?_ (Asks.cons ?_ (Asks.cons ?_ (Asks.cons ?_ (Asks.cons ?_ (Asks.cons ?_ (Asks.zero _))))))))
 exact Ask.plain rfl rfl fun aq wq hNq hO hR hT => does_move (V := x90) ((hO 15 rfl).trans s15_20) ⟨Ext.refl _, rfl⟩
 exact Ask.plain rfl rfl fun aq wq hNq hO hR hT => does_move (V := i64 ((((pl).toNat) % (1 + (((fr).toNat) % (((fill [] items).1).length))) : Nat) : Int)) ((hO 14 rfl).trans s14_20) ⟨Ext.refl _, rfl⟩
 exact Ask.plain rfl rfl fun aq wq hNq hO hR hT => does_move (V := x90) ((hO 15 rfl).trans s15_20) ⟨Ext.refl _, rfl⟩
 exact Ask.plain rfl rfl fun aq wq hNq hO hR hT => does_move (V := i64 ((((pl).toNat) % (1 + (((fr).toNat) % (((fill [] items).1).length))) : Nat) : Int)) ((hO 14 rfl).trans s14_20) ⟨Ext.refl _, rfl⟩
 exact Ask.plain rfl rfl fun aq wq hNq hO hR hT => does_indexSl (T := Str) (xs := (fill [] items).1.take (1 + fr.toNat % (fill [] items).1.length)) (i := ((((pl).toNat) % (1 + (((fr).toNat) % (((fill [] items).1).length))) : Nat) : Int)) (X := y) sli_22 rfl (SlT.at (hT 93 rfl rfl) (hsx90_19.ext' hR)) (hT 94 rfl rfl) (by omega) hy (fun v h => ⟨Ext.refl _, h⟩)
 exact Ask.plain rfl rfl fun aq wq hNq hO hR hT => does_loadP1 (V := str (y)) (hT 95 rfl rfl) one_9 ⟨Ext.refl _, rfl⟩
 exact Ask.plain rfl rfl fun aq wq hNq hO hR hT => does_cat (a := y) (b := ([33] : List UInt8)) (hT 96 rfl rfl) rfl (by simp only [List.length_append, List.length_cons, List.length_nil, List.length_replicate, bytes_length]; omega) ⟨Ext.refl _, rfl⟩
 exact Ask.plain rfl rfl fun aq wq hNq hO hR hT => does_elAddr (T := Str) (base := w0.heap.size) (xs := (fill [] items).1.take (1 + fr.toNat % (fill [] items).1.length)) (i := ((((pl).toNat) % (1 + (((fr).toNat) % (((fill [] items).1).length))) : Nat) : Int)) sli_22 rfl (hT 91 rfl rfl) (hox90_19.ext' hR) (hT 92 rfl rfl) (by omega) (by omega) ⟨Ext.refl _, rfl⟩
 intro a21 wd21 hN_21 hD_21 hO hR hA hU
 obtain ⟨_, _, _, _, _, _, t97, t98, _⟩ := hA
 have hE_21 := hE_19.trans hR
 have s7_21 := (hO 7 rfl).trans s7_20
 have s9_21 := (hO 9 rfl).trans s9_20
 have s14_21 := (hO 14 rfl).trans s14_20
 have s15_21 := (hO 15 rfl).trans s15_20
 have hbb7_21 := hbb7_19.ext' hR
 have hbb10_21 := hbb10_19.ext' hR
 have hbb11_21 := hbb11_19.ext' hR
 have hsx1_21 := hsx1_19.ext' hR
 have hsx33_0_4_21 := hsx33_0_4_19.ext' hR
 have hsx12_21 := hsx12_19.ext' hR
 have hsx90_21 := hsx90_19.ext' hR
 have hox12_21 := hox12_19.ext' hR
 have hox90_21 := hox90_19.ext' hR
 have s97_21 : get a21 97 = str (y ++ (([33] : List UInt8))) := t97
 have s98_21 : get a21 98 = elAddr x90 ((((pl).toNat) % (1 + (((fr).toNat) % (((fill [] items).1).length))))) 1 := t98
 clear hE_19 hN_20 hD_20 s7_20 s9_20 s14_20 s15_20 hbb7_19 hbb10_19 hbb11_19 hsx1_19 hsx33_0_4_19 hsx12_19 hsx90_19 hox12_19 hox90_19
 refine tail_none rfl rfl (does_storeEl (T := Str) (X := y ++ (([33] : List UInt8))) (V := str (y ++ (([33] : List UInt8)))) (v := x90) (k := (((pl).toNat) % (1 + (((fr).toNat) % (((fill [] items).1).length))))) rfl s98_21 s97_21 rfl hox90_21 (by omega) siz_9 (fun wd22 hX hox90_22 => ?_))
 have hE_22 := hE_21.since hX (fun b hb => Nat.le_trans (Nat.le_refl _) (OwnT.block_lt hox90_21 hb).1)
 have hbb7_22 := hbb7_21.ext hX nbo_x90_b7
 have hbb10_22 := hbb10_21.ext hX nbo_x90_b10
 have hbb11_22 := hbb11_21.ext hX nbo_x90_b11
 have hsx1_22 := SlT.overOwn hsx1_21 hox90_21 hX
 have hsx33_0_4_22 := SlT.overF hsx33_0_4_21 hX nz_x90_x33_0_4
 have hsx90_22 := hox90_22.sl.wide (Nat.zero_le _) (.inl rfl)
 clear hX hE_21 hox90_21 hbb7_21 hbb10_21 hbb11_21 hsx1_21 hsx33_0_4_21
 refine tail_nil ?_
 refine wp_seq ?_
 refine region_lex [] [(99, Pr.ex (Value.pointer (some ⟨b7, 0, none⟩))), (100, Pr.ex (x33_0_4)), (101, Pr.ex (i64 ((1 + (((fr).toNat) % (((fill [] items).1).length)) : Nat) : Int))), (102, Pr.sl' Str 0 0 (((fill [] items).1).take (1 + (((fr).toNat) % (((fill [] items).1).length))))), (103, Pr.own' DG wd22.heap.size 27 ((((fill [] items).1).take (1 + (((fr).toNat) % (((fill [] items).1).length)))).map of)), (104, Pr.ex (x90)), (105, Pr.own' DG wd22.heap.size 27 ((((fill [] items).1.take (1 + fr.toNat % (fill [] items).1.length)).set ((((pl).toNat) % (1 + (((fr).toNat) % (((fill [] items).1).length))))) (y ++ (([33] : List UInt8)))).map of)), (16, Pr.own' DG wd22.heap.size 27 ((((fill [] items).1).take (1 + (((fr).toNat) % (((fill [] items).1).length)))).map of)), (17, Pr.own' DG wd22.heap.size 27 ((((fill [] items).1.take (1 + fr.toNat % (fill [] items).1.length)).set ((((pl).toNat) % (1 + (((fr).toNat) % (((fill [] items).1).length))))) (y ++ (([33] : List UInt8)))).map of))] 9 hN_21 hD_21 (by kernel_rfl) (by kernel_rfl) ?_ ?_
 refine Asks.cons ?_ (Asks.cons ?_ (Asks.cons ?_ (Asks.cons ?_ (Asks.cons ?_ (Asks.cons ?_ (Asks.cons ?_ (Asks.cons ?_ (Asks.cons ?_ (Asks.zero _)))))))))
 exact Ask.plain rfl rfl fun aq wq hNq hO hR hT => does_field (o' := 0) fld_24_0 ((hO 7 rfl).trans s7_21) rfl ⟨Ext.refl _, rfl⟩
 exact Ask.plain rfl rfl fun aq wq hNq hO hR hT => does_loadD1 (o := 0) (V := x33_0_4) (hT 99 rfl rfl) (hbb7_22.ext' hR) rfl one_22 ⟨Ext.refl _, rfl⟩
 exact Ask.plain rfl rfl fun aq wq hNq hO hR hT => does_move (V := i64 ((1 + (((fr).toNat) % (((fill [] items).1).length)) : Nat) : Int)) ((hO 9 rfl).trans s9_21) ⟨Ext.refl _, rfl⟩
 exact Ask.plain rfl rfl fun aq wq hNq hO hR hT => does_sliceHi (T := Str) (xs := (fill [] items).1) (k := ((1 + (((fr).toNat) % (((fill [] items).1).length)) : Nat) : Int)) sli_22 rfl (SlT.at (hT 100 rfl rfl) (hsx33_0_4_22.ext' hR)) (hT 101 rfl rfl) (by omega) (by omega) (fun v h => ⟨Ext.refl _, h⟩)
 exact Ask.plain rfl rfl fun aq wq hNq hO hR hT => does_ret (vs := #[get aq 102]) call_36 (args1 rfl) rfl ((digestsT (((fill [] items).1).take (1 + (((fr).toNat) % (((fill [] items).1).length)))) (get aq 102) wq (hL.ext (hE_22.trans hR)) ((hT 102 rfl rfl).wide (Nat.zero_le _) (.inl rfl)) (fun x hx => hs1 x (List.mem_of_mem_take hx)) (by simp only [List.length_take]; omega)).mono fun v w2 h => ⟨h.2, OwnT.base h.1 hR.size'⟩)
 exact Ask.plain rfl rfl fun aq wq hNq hO hR hT => does_move (V := x90) ((hO 15 rfl).trans s15_21) ⟨Ext.refl _, rfl⟩
 exact Ask.plain rfl rfl fun aq wq hNq hO hR hT => does_ret (vs := #[x90]) call_36 (args1 (hT 104 rfl rfl)) rfl ((digestsT (((fill [] items).1.take (1 + fr.toNat % (fill [] items).1.length)).set ((((pl).toNat) % (1 + (((fr).toNat) % (((fill [] items).1).length))))) (y ++ (([33] : List UInt8)))) (x90) wq (hL.ext (hE_22.trans hR)) ((hsx90_22.ext' hR).wide (Nat.zero_le _) (.inl rfl)) hs2 hn2).mono fun v w2 h => ⟨h.2, OwnT.base h.1 hR.size'⟩)
 exact Ask.plain rfl rfl fun aq wq hNq hO hR hT => does_assign rfl ⟨Ext.refl _, (hT 103 rfl rfl)⟩
 exact Ask.plain rfl rfl fun aq wq hNq hO hR hT => does_assign rfl ⟨Ext.refl _, (hT 105 rfl rfl)⟩
 intro a23 wd23 hN_23 hD_23 hO hR hA hU
 obtain ⟨_, _, _, _, _, _, _, t16, t17, _⟩ := hA
 have hE_23 := hE_22.trans hR
 have s7_23 := (hO 7 rfl).trans s7_21
 have s9_23 := (hO 9 rfl).trans s9_21
 have s14_23 := (hO 14 rfl).trans s14_21
 have hbb7_23 := hbb7_22.ext' hR
 have hbb10_23 := hbb10_22.ext' hR
 have hbb11_23 := hbb11_22.ext' hR
 have hsx1_23 := hsx1_22.ext' hR
 have hsx33_0_4_23 := hsx33_0_4_22.ext' hR
 have hsx90_23 := hsx90_22.ext' hR
 have hox90_23 := hox90_22.ext' hR
 obtain ⟨x16, s16_23⟩ : ∃ x, get a23 16 = x := ⟨_, rfl⟩
 replace t16 : OwnT DG wd22.heap.size 27 ((((fill [] items).1).take (1 + (((fr).toNat) % (((fill [] items).1).length)))).map of) x16 wd23 := by rw [← s16_23]; exact t16
 have nbo_x16_b7 : x16.ownBlock ≠ some b7 := fun e => Nat.lt_irrefl _ (Nat.lt_of_lt_of_le hbb7_22.lt (OwnT.block_lt t16 e).1)
 have nbo_x16_b10 : x16.ownBlock ≠ some b10 := fun e => Nat.lt_irrefl _ (Nat.lt_of_lt_of_le hbb10_22.lt (OwnT.block_lt t16 e).1)
 have nbo_x16_b11 : x16.ownBlock ≠ some b11 := fun e => Nat.lt_irrefl _ (Nat.lt_of_lt_of_le hbb11_22.lt (OwnT.block_lt t16 e).1)
 have no_x16_x90 : ∀ k, x16.ownBlock = some k → x90.ownBlock ≠ some k := fun k e e' => Nat.lt_irrefl _ (Nat.lt_of_lt_of_le (OwnT.block_lt hox90_22 e').2 (OwnT.block_lt t16 e).1)
 have nz_x16_x33_0_4 := SlT.sep hsx33_0_4_22 t16
 have hsx16_23 := t16.sl.wide (Nat.zero_le _) (.inl rfl)
 have hox16_23 := OwnT.base t16 hE_22.size'
 obtain ⟨x17, s17_23⟩ : ∃ x, get a23 17 = x := ⟨_, rfl⟩
 replace t17 : OwnT DG wd22.heap.size 27 ((((fill [] items).1.take (1 + fr.toNat % (fill [] items).1.length)).set ((((pl).toNat) % (1 + (((fr).toNat) % (((fill [] items).1).length))))) (y ++ (([33] : List UInt8)))).map of) x17 wd23 := by rw [← s17_23]; exact t17
 have nbo_x17_b7 : x17.ownBlock ≠ some b7 := fun e => Nat.lt_irrefl _ (Nat.lt_of_lt_of_le hbb7_22.lt (OwnT.block_lt t17 e).1)
 have nbo_x17_b10 : x17.ownBlock ≠ some b10 := fun e => Nat.lt_irrefl _ (Nat.lt_of_lt_of_le hbb10_22.lt (OwnT.block_lt t17 e).1)
 have nbo_x17_b11 : x17.ownBlock ≠ some b11 := fun e => Nat.lt_irrefl _ (Nat.lt_of_lt_of_le hbb11_22.lt (OwnT.block_lt t17 e).1)
 have no_x17_x90 : ∀ k, x17.ownBlock = some k → x90.ownBlock ≠ some k := fun k e e' => Nat.lt_irrefl _ (Nat.lt_of_lt_of_le (OwnT.block_lt hox90_22 e').2 (OwnT.block_lt t17 e).1)
 have nz_x17_x33_0_4 := SlT.sep hsx33_0_4_22 t17
 have hsx17_23 := t17.sl.wide (Nat.zero_le _) (.inl rfl)
 have hox17_23 := OwnT.base t17 hE_22.size'
 clear hE_22 hN_21 hD_21 s7_21 s9_21 s14_21 s15_21 s97_21 s98_21 hbb7_22 hbb10_22 hbb11_22 hsx1_22 hsx33_0_4_22 hsx90_22 hox90_22
 refine tail_nil ?_
 refine wp_seq ?_
 refine region_lex [18] [(106, Pr.ex (i64 ((1 + (((fr).toNat) % (((fill [] items).1).length)) : Nat) : Int))), (107, Pr.ex (x17)), (108, Pr.ex (Dg.val (root ((((fill [] items).1.take (1 + fr.toNat % (fill [] items).1.length)).set ((((pl).toNat) % (1 + (((fr).toNat) % (((fill [] items).1).length))))) (y ++ (([33] : List UInt8)))).map of)))), (109, Pr.ex (Value.agg #[i64 ((1 + (((fr).toNat) % (((fill [] items).1).length)) : Nat) : Int), w32 (root ((((fill [] items).1.take (1 + fr.toNat % (fill [] items).1.length)).set ((((pl).toNat) % (1 + (((fr).toNat) % (((fill [] items).1).length))))) (y ++ (([33] : List UInt8)))).map of)).a, w32 (root ((((fill [] items).1.take (1 + fr.toNat % (fill [] items).1.length)).set ((((pl).toNat) % (1 + (((fr).toNat) % (((fill [] items).1).length))))) (y ++ (([33] : List UInt8)))).map of)).b, w32 (root ((((fill [] items).1.take (1 + fr.toNat % (fill [] items).1.length)).set ((((pl).toNat) % (1 + (((fr).toNat) % (((fill [] items).1).length))))) (y ++ (([33] : List UInt8)))).map of)).c, w32 (root ((((fill [] items).1.take (1 + fr.toNat % (fill [] items).1.length)).set ((((pl).toNat) % (1 + (((fr).toNat) % (((fill [] items).1).length))))) (y ++ (([33] : List UInt8)))).map of)).d])), (18, Pr.box' wd23.heap.size 29 [i64 ((0 : Nat) : Int), w32 (Dg.zero).a, w32 (Dg.zero).b, w32 (Dg.zero).c, w32 (Dg.zero).d])] 5 hN_23 hD_23 (by kernel_rfl) (by kernel_rfl) ?_ ?_
 refine Asks.cons ?_ (Asks.cons ?_ (Asks.cons ?_ (Asks.cons ?_ (Asks.cons ?_ (Asks.zero _)))))
 exact Ask.plain rfl rfl fun aq wq hNq hO hR hT => does_move (V := i64 ((1 + (((fr).toNat) % (((fill [] items).1).length)) : Nat) : Int)) ((hO 9 rfl).trans s9_23) ⟨Ext.refl _, rfl⟩
 exact Ask.plain rfl rfl fun aq wq hNq hO hR hT => does_move (V := x17) ((hO 17 rfl).trans s17_23) ⟨Ext.refl _, rfl⟩
 exact Ask.plain rfl rfl fun aq wq hNq hO hR hT => does_ret (vs := #[x17]) call_37 (args1 (hT 107 rfl rfl)) rfl ((root_ ((((fill [] items).1.take (1 + fr.toNat % (fill [] items).1.length)).set ((((pl).toNat) % (1 + (((fr).toNat) % (((fill [] items).1).length))))) (y ++ (([33] : List UInt8)))).map of) (x17) wq (hL.ext (hE_23.trans hR)) ((hsx17_23.ext' hR).wide (Nat.zero_le _) (.inl rfl)) (by simp only [List.length_map, List.length_take, List.length_set]; omega)).mono fun v w2 h => ⟨h.2, h.1⟩)
 exact Ask.plain rfl rfl fun aq wq hNq hO hR hT => does_build (vs := #[(0, i64 ((1 + (((fr).toNat) % (((fill [] items).1).length)) : Nat) : Int)), (1, Dg.val (root ((((fill [] items).1.take (1 + fr.toNat % (fill [] items).1.length)).set ((((pl).toNat) % (1 + (((fr).toNat) % (((fill [] items).1).length))))) (y ++ (([33] : List UInt8)))).map of)))]) (V := Value.agg #[i64 ((1 + (((fr).toNat) % (((fill [] items).1).length)) : Nat) : Int), w32 (root ((((fill [] items).1.take (1 + fr.toNat % (fill [] items).1.length)).set ((((pl).toNat) % (1 + (((fr).toNat) % (((fill [] items).1).length))))) (y ++ (([33] : List UInt8)))).map of)).a, w32 (root ((((fill [] items).1.take (1 + fr.toNat % (fill [] items).1.length)).set ((((pl).toNat) % (1 + (((fr).toNat) % (((fill [] items).1).length))))) (y ++ (([33] : List UInt8)))).map of)).b, w32 (root ((((fill [] items).1.take (1 + fr.toNat % (fill [] items).1.length)).set ((((pl).toNat) % (1 + (((fr).toNat) % (((fill [] items).1).length))))) (y ++ (([33] : List UInt8)))).map of)).c, w32 (root ((((fill [] items).1.take (1 + fr.toNat % (fill [] items).1.length)).set ((((pl).toNat) % (1 + (((fr).toNat) % (((fill [] items).1).length))))) (y ++ (([33] : List UInt8)))).map of)).d]) (parts2 (hT 106 rfl rfl) (hT 108 rfl rfl)) (by kernel_rfl) ⟨Ext.refl _, rfl⟩
 refine Ask.fresh rfl rfl ?_
 intro aq wq hNq hO hR hT
 exact does_alloc zero_29 (fun b w2 he hlo hb => ⟨he, ⟨b, rfl, Nat.le_trans hR.size' hlo, hb⟩, ⟨b, rfl, hlo, hb.lt⟩⟩)
 intro a24 wd24 hN_24 hD_24 hO hR hA hU
 obtain ⟨_, _, _, t109, t18, _⟩ := hA
 have hE_24 := hE_23.trans hR
 have s7_24 := (hO 7 rfl).trans s7_23
 have s14_24 := (hO 14 rfl).trans s14_23
 have s16_24 := (hO 16 rfl).trans s16_23
 have s17_24 := (hO 17 rfl).trans s17_23
 have hbb7_24 := hbb7_23.ext' hR
 have hbb10_24 := hbb10_23.ext' hR
 have hbb11_24 := hbb11_23.ext' hR
 have hsx1_24 := hsx1_23.ext' hR
 have hsx33_0_4_24 := hsx33_0_4_23.ext' hR
 have hsx90_24 := hsx90_23.ext' hR
 have hsx16_24 := hsx16_23.ext' hR
 have hsx17_24 := hsx17_23.ext' hR
 have hox90_24 := hox90_23.ext' hR
 have hox16_24 := hox16_23.ext' hR
 have hox17_24 := hox17_23.ext' hR
 have s109_24 : get a24 109 = Value.agg #[i64 ((1 + (((fr).toNat) % (((fill [] items).1).length)) : Nat) : Int), w32 (root ((((fill [] items).1.take (1 + fr.toNat % (fill [] items).1.length)).set ((((pl).toNat) % (1 + (((fr).toNat) % (((fill [] items).1).length))))) (y ++ (([33] : List UInt8)))).map of)).a, w32 (root ((((fill [] items).1.take (1 + fr.toNat % (fill [] items).1.length)).set ((((pl).toNat) % (1 + (((fr).toNat) % (((fill [] items).1).length))))) (y ++ (([33] : List UInt8)))).map of)).b, w32 (root ((((fill [] items).1.take (1 + fr.toNat % (fill [] items).1.length)).set ((((pl).toNat) % (1 + (((fr).toNat) % (((fill [] items).1).length))))) (y ++ (([33] : List UInt8)))).map of)).c, w32 (root ((((fill [] items).1.take (1 + fr.toNat % (fill [] items).1.length)).set ((((pl).toNat) % (1 + (((fr).toNat) % (((fill [] items).1).length))))) (y ++ (([33] : List UInt8)))).map of)).d] := t109
 obtain ⟨b18, s18_24, lo_b18, hbb18_24⟩ := t18
 have ne_b7_b18 : b7 ≠ b18 := fun e => Nat.lt_irrefl _ (Nat.lt_of_lt_of_le hbb7_23.lt (e ▸ lo_b18))
 have ne_b10_b18 : b10 ≠ b18 := fun e => Nat.lt_irrefl _ (Nat.lt_of_lt_of_le hbb10_23.lt (e ▸ lo_b18))
 have ne_b11_b18 : b11 ≠ b18 := fun e => Nat.lt_irrefl _ (Nat.lt_of_lt_of_le hbb11_23.lt (e ▸ lo_b18))
 have nb_x1_b18 := SlT.old hsx1_23 lo_b18
 have nb_x33_0_4_b18 := SlT.old hsx33_0_4_23 lo_b18
 have nb_x90_b18 := SlT.old hsx90_23 lo_b18
 have nb_x16_b18 := SlT.old hsx16_23 lo_b18
 have nb_x17_b18 := SlT.old hsx17_23 lo_b18
 have nbo_x90_b18 : x90.ownBlock ≠ some b18 := fun e => Nat.lt_irrefl _ (Nat.lt_of_lt_of_le (OwnT.block_lt hox90_23 e).2 lo_b18)
 have nbo_x16_b18 : x16.ownBlock ≠ some b18 := fun e => Nat.lt_irrefl _ (Nat.lt_of_lt_of_le (OwnT.block_lt hox16_23 e).2 lo_b18)
 have nbo_x17_b18 : x17.ownBlock ≠ some b18 := fun e => Nat.lt_irrefl _ (Nat.lt_of_lt_of_le (OwnT.block_lt hox17_23 e).2 lo_b18)
 have fr_b18 : w0.heap.size ≤ b18 := Nat.le_trans hE_23.size' lo_b18
 clear hE_23 hN_23 hD_23 s7_23 s9_23 s14_23 s16_23 s17_23 hbb7_23 hbb10_23 hbb11_23 hsx1_23 hsx33_0_4_23 hsx90_23 hsx16_23 hsx17_23 hox90_23 hox16_23 hox17_23
 refine tail_none rfl rfl (does_storeD (o := 0) (n := 5) (cs' := [i64 ((1 + (((fr).toNat) % (((fill [] items).1).length)) : Nat) : Int), w32 (root ((((fill [] items).1.take (1 + fr.toNat % (fill [] items).1.length)).set ((((pl).toNat) % (1 + (((fr).toNat) % (((fill [] items).1).length))))) (y ++ (([33] : List UInt8)))).map of)).a, w32 (root ((((fill [] items).1.take (1 + fr.toNat % (fill [] items).1.length)).set ((((pl).toNat) % (1 + (((fr).toNat) % (((fill [] items).1).length))))) (y ++ (([33] : List UInt8)))).map of)).b, w32 (root ((((fill [] items).1.take (1 + fr.toNat % (fill [] items).1.length)).set ((((pl).toNat) % (1 + (((fr).toNat) % (((fill [] items).1).length))))) (y ++ (([33] : List UInt8)))).map of)).c, w32 (root ((((fill [] items).1.take (1 + fr.toNat % (fill [] items).1.length)).set ((((pl).toNat) % (1 + (((fr).toNat) % (((fill [] items).1).length))))) (y ++ (([33] : List UInt8)))).map of)).d]) (V := Value.agg #[i64 ((1 + (((fr).toNat) % (((fill [] items).1).length)) : Nat) : Int), w32 (root ((((fill [] items).1.take (1 + fr.toNat % (fill [] items).1.length)).set ((((pl).toNat) % (1 + (((fr).toNat) % (((fill [] items).1).length))))) (y ++ (([33] : List UInt8)))).map of)).a, w32 (root ((((fill [] items).1.take (1 + fr.toNat % (fill [] items).1.length)).set ((((pl).toNat) % (1 + (((fr).toNat) % (((fill [] items).1).length))))) (y ++ (([33] : List UInt8)))).map of)).b, w32 (root ((((fill [] items).1.take (1 + fr.toNat % (fill [] items).1.length)).set ((((pl).toNat) % (1 + (((fr).toNat) % (((fill [] items).1).length))))) (y ++ (([33] : List UInt8)))).map of)).c, w32 (root ((((fill [] items).1.take (1 + fr.toNat % (fill [] items).1.length)).set ((((pl).toNat) % (1 + (((fr).toNat) % (((fill [] items).1).length))))) (y ++ (([33] : List UInt8)))).map of)).d]) s18_24 s109_24 hbb18_24 (Nat.le_of_ble_eq_true rfl) rfl siz_29 rfl rfl (fun wd25 hX hz hbb18_25 => ?_))
 have hE_25 := hE_24.since hX (fun k e => e ▸ fr_b18)
 have hbb7_25 := hbb7_24.ext hX ne_b7_b18
 have hbb10_25 := hbb10_24.ext hX ne_b10_b18
 have hbb11_25 := hbb11_24.ext hX ne_b11_b18
 have hsx1_25 := SlT.over hsx1_24 hX nb_x1_b18
 have hsx33_0_4_25 := SlT.over hsx33_0_4_24 hX nb_x33_0_4_b18
 have hsx90_25 := SlT.over hsx90_24 hX nb_x90_b18
 have hsx16_25 := SlT.over hsx16_24 hX nb_x16_b18
 have hsx17_25 := SlT.over hsx17_24 hX nb_x17_b18
 have hox90_25 := OwnT.ext hox90_24 hX (fun k hk e => nbo_x90_b18 (e ▸ hk))
 have hox16_25 := OwnT.ext hox16_24 hX (fun k hk e => nbo_x16_b18 (e ▸ hk))
 have hox17_25 := OwnT.ext hox17_24 hX (fun k hk e => nbo_x17_b18 (e ▸ hk))
 clear hX hz hE_24 hbb7_24 hbb10_24 hbb11_24 hbb18_24 hsx1_24 hsx33_0_4_24 hsx90_24 hsx16_24 hsx17_24 hox90_24 hox16_24 hox17_24
 refine tail_nil ?_
 refine wp_seq ?_
 refine region_lex [19, 20] [(111, Pr.ex (x16)), (112, Pr.ex (x17)), (113, Pr.ex (Value.tuple #[Value.agg #[w32 ((clash ((((fill [] items).1).take (1 + (((fr).toNat) % (((fill [] items).1).length)))).map of) ((((fill [] items).1.take (1 + fr.toNat % (fill [] items).1.length)).set ((((pl).toNat) % (1 + (((fr).toNat) % (((fill [] items).1).length))))) (y ++ (([33] : List UInt8)))).map of)).1.1).a, w32 ((clash ((((fill [] items).1).take (1 + (((fr).toNat) % (((fill [] items).1).length)))).map of) ((((fill [] items).1.take (1 + fr.toNat % (fill [] items).1.length)).set ((((pl).toNat) % (1 + (((fr).toNat) % (((fill [] items).1).length))))) (y ++ (([33] : List UInt8)))).map of)).1.1).b, w32 ((clash ((((fill [] items).1).take (1 + (((fr).toNat) % (((fill [] items).1).length)))).map of) ((((fill [] items).1.take (1 + fr.toNat % (fill [] items).1.length)).set ((((pl).toNat) % (1 + (((fr).toNat) % (((fill [] items).1).length))))) (y ++ (([33] : List UInt8)))).map of)).1.1).c, w32 ((clash ((((fill [] items).1).take (1 + (((fr).toNat) % (((fill [] items).1).length)))).map of) ((((fill [] items).1.take (1 + fr.toNat % (fill [] items).1.length)).set ((((pl).toNat) % (1 + (((fr).toNat) % (((fill [] items).1).length))))) (y ++ (([33] : List UInt8)))).map of)).1.1).d, w32 ((clash ((((fill [] items).1).take (1 + (((fr).toNat) % (((fill [] items).1).length)))).map of) ((((fill [] items).1.take (1 + fr.toNat % (fill [] items).1.length)).set ((((pl).toNat) % (1 + (((fr).toNat) % (((fill [] items).1).length))))) (y ++ (([33] : List UInt8)))).map of)).1.2).a, w32 ((clash ((((fill [] items).1).take (1 + (((fr).toNat) % (((fill [] items).1).length)))).map of) ((((fill [] items).1.take (1 + fr.toNat % (fill [] items).1.length)).set ((((pl).toNat) % (1 + (((fr).toNat) % (((fill [] items).1).length))))) (y ++ (([33] : List UInt8)))).map of)).1.2).b, w32 ((clash ((((fill [] items).1).take (1 + (((fr).toNat) % (((fill [] items).1).length)))).map of) ((((fill [] items).1.take (1 + fr.toNat % (fill [] items).1.length)).set ((((pl).toNat) % (1 + (((fr).toNat) % (((fill [] items).1).length))))) (y ++ (([33] : List UInt8)))).map of)).1.2).c, w32 ((clash ((((fill [] items).1).take (1 + (((fr).toNat) % (((fill [] items).1).length)))).map of) ((((fill [] items).1.take (1 + fr.toNat % (fill [] items).1.length)).set ((((pl).toNat) % (1 + (((fr).toNat) % (((fill [] items).1).length))))) (y ++ (([33] : List UInt8)))).map of)).1.2).d], Value.agg #[w32 ((clash ((((fill [] items).1).take (1 + (((fr).toNat) % (((fill [] items).1).length)))).map of) ((((fill [] items).1.take (1 + fr.toNat % (fill [] items).1.length)).set ((((pl).toNat) % (1 + (((fr).toNat) % (((fill [] items).1).length))))) (y ++ (([33] : List UInt8)))).map of)).2.1.1).a, w32 ((clash ((((fill [] items).1).take (1 + (((fr).toNat) % (((fill [] items).1).length)))).map of) ((((fill [] items).1.take (1 + fr.toNat % (fill [] items).1.length)).set ((((pl).toNat) % (1 + (((fr).toNat) % (((fill [] items).1).length))))) (y ++ (([33] : List UInt8)))).map of)).2.1.1).b, w32 ((clash ((((fill [] items).1).take (1 + (((fr).toNat) % (((fill [] items).1).length)))).map of) ((((fill [] items).1.take (1 + fr.toNat % (fill [] items).1.length)).set ((((pl).toNat) % (1 + (((fr).toNat) % (((fill [] items).1).length))))) (y ++ (([33] : List UInt8)))).map of)).2.1.1).c, w32 ((clash ((((fill [] items).1).take (1 + (((fr).toNat) % (((fill [] items).1).length)))).map of) ((((fill [] items).1.take (1 + fr.toNat % (fill [] items).1.length)).set ((((pl).toNat) % (1 + (((fr).toNat) % (((fill [] items).1).length))))) (y ++ (([33] : List UInt8)))).map of)).2.1.1).d, w32 ((clash ((((fill [] items).1).take (1 + (((fr).toNat) % (((fill [] items).1).length)))).map of) ((((fill [] items).1.take (1 + fr.toNat % (fill [] items).1.length)).set ((((pl).toNat) % (1 + (((fr).toNat) % (((fill [] items).1).length))))) (y ++ (([33] : List UInt8)))).map of)).2.1.2).a, w32 ((clash ((((fill [] items).1).take (1 + (((fr).toNat) % (((fill [] items).1).length)))).map of) ((((fill [] items).1.take (1 + fr.toNat % (fill [] items).1.length)).set ((((pl).toNat) % (1 + (((fr).toNat) % (((fill [] items).1).length))))) (y ++ (([33] : List UInt8)))).map of)).2.1.2).b, w32 ((clash ((((fill [] items).1).take (1 + (((fr).toNat) % (((fill [] items).1).length)))).map of) ((((fill [] items).1.take (1 + fr.toNat % (fill [] items).1.length)).set ((((pl).toNat) % (1 + (((fr).toNat) % (((fill [] items).1).length))))) (y ++ (([33] : List UInt8)))).map of)).2.1.2).c, w32 ((clash ((((fill [] items).1).take (1 + (((fr).toNat) % (((fill [] items).1).length)))).map of) ((((fill [] items).1.take (1 + fr.toNat % (fill [] items).1.length)).set ((((pl).toNat) % (1 + (((fr).toNat) % (((fill [] items).1).length))))) (y ++ (([33] : List UInt8)))).map of)).2.1.2).d], Value.bool ((clash ((((fill [] items).1).take (1 + (((fr).toNat) % (((fill [] items).1).length)))).map of) ((((fill [] items).1.take (1 + fr.toNat % (fill [] items).1.length)).set ((((pl).toNat) % (1 + (((fr).toNat) % (((fill [] items).1).length))))) (y ++ (([33] : List UInt8)))).map of)).2.2)])), (110, Pr.ex (Value.tuple #[Value.agg #[w32 ((clash ((((fill [] items).1).take (1 + (((fr).toNat) % (((fill [] items).1).length)))).map of) ((((fill [] items).1.take (1 + fr.toNat % (fill [] items).1.length)).set ((((pl).toNat) % (1 + (((fr).toNat) % (((fill [] items).1).length))))) (y ++ (([33] : List UInt8)))).map of)).1.1).a, w32 ((clash ((((fill [] items).1).take (1 + (((fr).toNat) % (((fill [] items).1).length)))).map of) ((((fill [] items).1.take (1 + fr.toNat % (fill [] items).1.length)).set ((((pl).toNat) % (1 + (((fr).toNat) % (((fill [] items).1).length))))) (y ++ (([33] : List UInt8)))).map of)).1.1).b, w32 ((clash ((((fill [] items).1).take (1 + (((fr).toNat) % (((fill [] items).1).length)))).map of) ((((fill [] items).1.take (1 + fr.toNat % (fill [] items).1.length)).set ((((pl).toNat) % (1 + (((fr).toNat) % (((fill [] items).1).length))))) (y ++ (([33] : List UInt8)))).map of)).1.1).c, w32 ((clash ((((fill [] items).1).take (1 + (((fr).toNat) % (((fill [] items).1).length)))).map of) ((((fill [] items).1.take (1 + fr.toNat % (fill [] items).1.length)).set ((((pl).toNat) % (1 + (((fr).toNat) % (((fill [] items).1).length))))) (y ++ (([33] : List UInt8)))).map of)).1.1).d, w32 ((clash ((((fill [] items).1).take (1 + (((fr).toNat) % (((fill [] items).1).length)))).map of) ((((fill [] items).1.take (1 + fr.toNat % (fill [] items).1.length)).set ((((pl).toNat) % (1 + (((fr).toNat) % (((fill [] items).1).length))))) (y ++ (([33] : List UInt8)))).map of)).1.2).a, w32 ((clash ((((fill [] items).1).take (1 + (((fr).toNat) % (((fill [] items).1).length)))).map of) ((((fill [] items).1.take (1 + fr.toNat % (fill [] items).1.length)).set ((((pl).toNat) % (1 + (((fr).toNat) % (((fill [] items).1).length))))) (y ++ (([33] : List UInt8)))).map of)).1.2).b, w32 ((clash ((((fill [] items).1).take (1 + (((fr).toNat) % (((fill [] items).1).length)))).map of) ((((fill [] items).1.take (1 + fr.toNat % (fill [] items).1.length)).set ((((pl).toNat) % (1 + (((fr).toNat) % (((fill [] items).1).length))))) (y ++ (([33] : List UInt8)))).map of)).1.2).c, w32 ((clash ((((fill [] items).1).take (1 + (((fr).toNat) % (((fill [] items).1).length)))).map of) ((((fill [] items).1.take (1 + fr.toNat % (fill [] items).1.length)).set ((((pl).toNat) % (1 + (((fr).toNat) % (((fill [] items).1).length))))) (y ++ (([33] : List UInt8)))).map of)).1.2).d], Value.agg #[w32 ((clash ((((fill [] items).1).take (1 + (((fr).toNat) % (((fill [] items).1).length)))).map of) ((((fill [] items).1.take (1 + fr.toNat % (fill [] items).1.length)).set ((((pl).toNat) % (1 + (((fr).toNat) % (((fill [] items).1).length))))) (y ++ (([33] : List UInt8)))).map of)).2.1.1).a, w32 ((clash ((((fill [] items).1).take (1 + (((fr).toNat) % (((fill [] items).1).length)))).map of) ((((fill [] items).1.take (1 + fr.toNat % (fill [] items).1.length)).set ((((pl).toNat) % (1 + (((fr).toNat) % (((fill [] items).1).length))))) (y ++ (([33] : List UInt8)))).map of)).2.1.1).b, w32 ((clash ((((fill [] items).1).take (1 + (((fr).toNat) % (((fill [] items).1).length)))).map of) ((((fill [] items).1.take (1 + fr.toNat % (fill [] items).1.length)).set ((((pl).toNat) % (1 + (((fr).toNat) % (((fill [] items).1).length))))) (y ++ (([33] : List UInt8)))).map of)).2.1.1).c, w32 ((clash ((((fill [] items).1).take (1 + (((fr).toNat) % (((fill [] items).1).length)))).map of) ((((fill [] items).1.take (1 + fr.toNat % (fill [] items).1.length)).set ((((pl).toNat) % (1 + (((fr).toNat) % (((fill [] items).1).length))))) (y ++ (([33] : List UInt8)))).map of)).2.1.1).d, w32 ((clash ((((fill [] items).1).take (1 + (((fr).toNat) % (((fill [] items).1).length)))).map of) ((((fill [] items).1.take (1 + fr.toNat % (fill [] items).1.length)).set ((((pl).toNat) % (1 + (((fr).toNat) % (((fill [] items).1).length))))) (y ++ (([33] : List UInt8)))).map of)).2.1.2).a, w32 ((clash ((((fill [] items).1).take (1 + (((fr).toNat) % (((fill [] items).1).length)))).map of) ((((fill [] items).1.take (1 + fr.toNat % (fill [] items).1.length)).set ((((pl).toNat) % (1 + (((fr).toNat) % (((fill [] items).1).length))))) (y ++ (([33] : List UInt8)))).map of)).2.1.2).b, w32 ((clash ((((fill [] items).1).take (1 + (((fr).toNat) % (((fill [] items).1).length)))).map of) ((((fill [] items).1.take (1 + fr.toNat % (fill [] items).1.length)).set ((((pl).toNat) % (1 + (((fr).toNat) % (((fill [] items).1).length))))) (y ++ (([33] : List UInt8)))).map of)).2.1.2).c, w32 ((clash ((((fill [] items).1).take (1 + (((fr).toNat) % (((fill [] items).1).length)))).map of) ((((fill [] items).1.take (1 + fr.toNat % (fill [] items).1.length)).set ((((pl).toNat) % (1 + (((fr).toNat) % (((fill [] items).1).length))))) (y ++ (([33] : List UInt8)))).map of)).2.1.2).d], Value.bool ((clash ((((fill [] items).1).take (1 + (((fr).toNat) % (((fill [] items).1).length)))).map of) ((((fill [] items).1.take (1 + fr.toNat % (fill [] items).1.length)).set ((((pl).toNat) % (1 + (((fr).toNat) % (((fill [] items).1).length))))) (y ++ (([33] : List UInt8)))).map of)).2.2)])), (114, Pr.ex (Value.agg #[w32 ((clash ((((fill [] items).1).take (1 + (((fr).toNat) % (((fill [] items).1).length)))).map of) ((((fill [] items).1.take (1 + fr.toNat % (fill [] items).1.length)).set ((((pl).toNat) % (1 + (((fr).toNat) % (((fill [] items).1).length))))) (y ++ (([33] : List UInt8)))).map of)).1.1).a, w32 ((clash ((((fill [] items).1).take (1 + (((fr).toNat) % (((fill [] items).1).length)))).map of) ((((fill [] items).1.take (1 + fr.toNat % (fill [] items).1.length)).set ((((pl).toNat) % (1 + (((fr).toNat) % (((fill [] items).1).length))))) (y ++ (([33] : List UInt8)))).map of)).1.1).b, w32 ((clash ((((fill [] items).1).take (1 + (((fr).toNat) % (((fill [] items).1).length)))).map of) ((((fill [] items).1.take (1 + fr.toNat % (fill [] items).1.length)).set ((((pl).toNat) % (1 + (((fr).toNat) % (((fill [] items).1).length))))) (y ++ (([33] : List UInt8)))).map of)).1.1).c, w32 ((clash ((((fill [] items).1).take (1 + (((fr).toNat) % (((fill [] items).1).length)))).map of) ((((fill [] items).1.take (1 + fr.toNat % (fill [] items).1.length)).set ((((pl).toNat) % (1 + (((fr).toNat) % (((fill [] items).1).length))))) (y ++ (([33] : List UInt8)))).map of)).1.1).d, w32 ((clash ((((fill [] items).1).take (1 + (((fr).toNat) % (((fill [] items).1).length)))).map of) ((((fill [] items).1.take (1 + fr.toNat % (fill [] items).1.length)).set ((((pl).toNat) % (1 + (((fr).toNat) % (((fill [] items).1).length))))) (y ++ (([33] : List UInt8)))).map of)).1.2).a, w32 ((clash ((((fill [] items).1).take (1 + (((fr).toNat) % (((fill [] items).1).length)))).map of) ((((fill [] items).1.take (1 + fr.toNat % (fill [] items).1.length)).set ((((pl).toNat) % (1 + (((fr).toNat) % (((fill [] items).1).length))))) (y ++ (([33] : List UInt8)))).map of)).1.2).b, w32 ((clash ((((fill [] items).1).take (1 + (((fr).toNat) % (((fill [] items).1).length)))).map of) ((((fill [] items).1.take (1 + fr.toNat % (fill [] items).1.length)).set ((((pl).toNat) % (1 + (((fr).toNat) % (((fill [] items).1).length))))) (y ++ (([33] : List UInt8)))).map of)).1.2).c, w32 ((clash ((((fill [] items).1).take (1 + (((fr).toNat) % (((fill [] items).1).length)))).map of) ((((fill [] items).1.take (1 + fr.toNat % (fill [] items).1.length)).set ((((pl).toNat) % (1 + (((fr).toNat) % (((fill [] items).1).length))))) (y ++ (([33] : List UInt8)))).map of)).1.2).d])), (115, Pr.ex (Value.agg #[w32 ((clash ((((fill [] items).1).take (1 + (((fr).toNat) % (((fill [] items).1).length)))).map of) ((((fill [] items).1.take (1 + fr.toNat % (fill [] items).1.length)).set ((((pl).toNat) % (1 + (((fr).toNat) % (((fill [] items).1).length))))) (y ++ (([33] : List UInt8)))).map of)).2.1.1).a, w32 ((clash ((((fill [] items).1).take (1 + (((fr).toNat) % (((fill [] items).1).length)))).map of) ((((fill [] items).1.take (1 + fr.toNat % (fill [] items).1.length)).set ((((pl).toNat) % (1 + (((fr).toNat) % (((fill [] items).1).length))))) (y ++ (([33] : List UInt8)))).map of)).2.1.1).b, w32 ((clash ((((fill [] items).1).take (1 + (((fr).toNat) % (((fill [] items).1).length)))).map of) ((((fill [] items).1.take (1 + fr.toNat % (fill [] items).1.length)).set ((((pl).toNat) % (1 + (((fr).toNat) % (((fill [] items).1).length))))) (y ++ (([33] : List UInt8)))).map of)).2.1.1).c, w32 ((clash ((((fill [] items).1).take (1 + (((fr).toNat) % (((fill [] items).1).length)))).map of) ((((fill [] items).1.take (1 + fr.toNat % (fill [] items).1.length)).set ((((pl).toNat) % (1 + (((fr).toNat) % (((fill [] items).1).length))))) (y ++ (([33] : List UInt8)))).map of)).2.1.1).d, w32 ((clash ((((fill [] items).1).take (1 + (((fr).toNat) % (((fill [] items).1).length)))).map of) ((((fill [] items).1.take (1 + fr.toNat % (fill [] items).1.length)).set ((((pl).toNat) % (1 + (((fr).toNat) % (((fill [] items).1).length))))) (y ++ (([33] : List UInt8)))).map of)).2.1.2).a, w32 ((clash ((((fill [] items).1).take (1 + (((fr).toNat) % (((fill [] items).1).length)))).map of) ((((fill [] items).1.take (1 + fr.toNat % (fill [] items).1.length)).set ((((pl).toNat) % (1 + (((fr).toNat) % (((fill [] items).1).length))))) (y ++ (([33] : List UInt8)))).map of)).2.1.2).b, w32 ((clash ((((fill [] items).1).take (1 + (((fr).toNat) % (((fill [] items).1).length)))).map of) ((((fill [] items).1.take (1 + fr.toNat % (fill [] items).1.length)).set ((((pl).toNat) % (1 + (((fr).toNat) % (((fill [] items).1).length))))) (y ++ (([33] : List UInt8)))).map of)).2.1.2).c, w32 ((clash ((((fill [] items).1).take (1 + (((fr).toNat) % (((fill [] items).1).length)))).map of) ((((fill [] items).1.take (1 + fr.toNat % (fill [] items).1.length)).set ((((pl).toNat) % (1 + (((fr).toNat) % (((fill [] items).1).length))))) (y ++ (([33] : List UInt8)))).map of)).2.1.2).d])), (116, Pr.ex (Value.bool ((clash ((((fill [] items).1).take (1 + (((fr).toNat) % (((fill [] items).1).length)))).map of) ((((fill [] items).1.take (1 + fr.toNat % (fill [] items).1.length)).set ((((pl).toNat) % (1 + (((fr).toNat) % (((fill [] items).1).length))))) (y ++ (([33] : List UInt8)))).map of)).2.2))), (19, Pr.box' wd25.heap.size 44 [w32 (Dg.zero).a, w32 (Dg.zero).b, w32 (Dg.zero).c, w32 (Dg.zero).d, w32 (Dg.zero).a, w32 (Dg.zero).b, w32 (Dg.zero).c, w32 (Dg.zero).d]), (20, Pr.box' wd25.heap.size 44 [w32 (Dg.zero).a, w32 (Dg.zero).b, w32 (Dg.zero).c, w32 (Dg.zero).d, w32 (Dg.zero).a, w32 (Dg.zero).b, w32 (Dg.zero).c, w32 (Dg.zero).d])] 9 hN_24 hD_24 (by kernel_rfl) (by kernel_rfl) ?_ ?_
 refine Asks.cons ?_ (Asks.cons ?_ (Asks.cons ?_ (Asks.cons ?_ (Asks.cons ?_ (Asks.cons ?_ (Asks.cons ?_ (Asks.cons ?_ (Asks.cons ?_ (Asks.zero _)))))))))
 exact Ask.plain rfl rfl fun aq wq hNq hO hR hT => does_move (V := x16) ((hO 16 rfl).trans s16_24) ⟨Ext.refl _, rfl⟩
 exact Ask.plain rfl rfl fun aq wq hNq hO hR hT => does_move (V := x17) ((hO 17 rfl).trans s17_24) ⟨Ext.refl _, rfl⟩
 exact Ask.plain rfl rfl fun aq wq hNq hO hR hT => does_ret (vs := #[x16, x17]) call_23 (args2 (hT 111 rfl rfl) (hT 112 rfl rfl)) rfl ((clash_ ((((fill [] items).1).take (1 + (((fr).toNat) % (((fill [] items).1).length)))).map of) ((((fill [] items).1.take (1 + fr.toNat % (fill [] items).1.length)).set ((((pl).toNat) % (1 + (((fr).toNat) % (((fill [] items).1).length))))) (y ++ (([33] : List UInt8)))).map of) (x16) (x17) wq (hL.ext (hE_25.trans hR)) ((hsx16_25.ext' hR).wide (Nat.zero_le _) (.inl rfl)) ((hsx17_25.ext' hR).wide (Nat.zero_le _) (.inl rfl)) (by simp only [List.length_map, List.length_take, List.length_set]; omega) (by simp only [List.length_map, List.length_take, List.length_set]; omega)).mono fun v w2 h => ⟨h.2, h.1⟩)
 exact Ask.plain rfl rfl fun aq wq hNq hO hR hT => does_move (V := Value.tuple #[Value.agg #[w32 ((clash ((((fill [] items).1).take (1 + (((fr).toNat) % (((fill [] items).1).length)))).map of) ((((fill [] items).1.take (1 + fr.toNat % (fill [] items).1.length)).set ((((pl).toNat) % (1 + (((fr).toNat) % (((fill [] items).1).length))))) (y ++ (([33] : List UInt8)))).map of)).1.1).a, w32 ((clash ((((fill [] items).1).take (1 + (((fr).toNat) % (((fill [] items).1).length)))).map of) ((((fill [] items).1.take (1 + fr.toNat % (fill [] items).1.length)).set ((((pl).toNat) % (1 + (((fr).toNat) % (((fill [] items).1).length))))) (y ++ (([33] : List UInt8)))).map of)).1.1).b, w32 ((clash ((((fill [] items).1).take (1 + (((fr).toNat) % (((fill [] items).1).length)))).map of) ((((fill [] items).1.take (1 + fr.toNat % (fill [] items).1.length)).set ((((pl).toNat) % (1 + (((fr).toNat) % (((fill [] items).1).length))))) (y ++ (([33] : List UInt8)))).map of)).1.1).c, w32 ((clash ((((fill [] items).1).take (1 + (((fr).toNat) % (((fill [] items).1).length)))).map of) ((((fill [] items).1.take (1 + fr.toNat % (fill [] items).1.length)).set ((((pl).toNat) % (1 + (((fr).toNat) % (((fill [] items).1).length))))) (y ++ (([33] : List UInt8)))).map of)).1.1).d, w32 ((clash ((((fill [] items).1).take (1 + (((fr).toNat) % (((fill [] items).1).length)))).map of) ((((fill [] items).1.take (1 + fr.toNat % (fill [] items).1.length)).set ((((pl).toNat) % (1 + (((fr).toNat) % (((fill [] items).1).length))))) (y ++ (([33] : List UInt8)))).map of)).1.2).a, w32 ((clash ((((fill [] items).1).take (1 + (((fr).toNat) % (((fill [] items).1).length)))).map of) ((((fill [] items).1.take (1 + fr.toNat % (fill [] items).1.length)).set ((((pl).toNat) % (1 + (((fr).toNat) % (((fill [] items).1).length))))) (y ++ (([33] : List UInt8)))).map of)).1.2).b, w32 ((clash ((((fill [] items).1).take (1 + (((fr).toNat) % (((fill [] items).1).length)))).map of) ((((fill [] items).1.take (1 + fr.toNat % (fill [] items).1.length)).set ((((pl).toNat) % (1 + (((fr).toNat) % (((fill [] items).1).length))))) (y ++ (([33] : List UInt8)))).map of)).1.2).c, w32 ((clash ((((fill [] items).1).take (1 + (((fr).toNat) % (((fill [] items).1).length)))).map of) ((((fill [] items).1.take (1 + fr.toNat % (fill [] items).1.length)).set ((((pl).toNat) % (1 + (((fr).toNat) % (((fill [] items).1).length))))) (y ++ (([33] : List UInt8)))).map of)).1.2).d], Value.agg #[w32 ((clash ((((fill [] items).1).take (1 + (((fr).toNat) % (((fill [] items).1).length)))).map of) ((((fill [] items).1.take (1 + fr.toNat % (fill [] items).1.length)).set ((((pl).toNat) % (1 + (((fr).toNat) % (((fill [] items).1).length))))) (y ++ (([33] : List UInt8)))).map of)).2.1.1).a, w32 ((clash ((((fill [] items).1).take (1 + (((fr).toNat) % (((fill [] items).1).length)))).map of) ((((fill [] items).1.take (1 + fr.toNat % (fill [] items).1.length)).set ((((pl).toNat) % (1 + (((fr).toNat) % (((fill [] items).1).length))))) (y ++ (([33] : List UInt8)))).map of)).2.1.1).b, w32 ((clash ((((fill [] items).1).take (1 + (((fr).toNat) % (((fill [] items).1).length)))).map of) ((((fill [] items).1.take (1 + fr.toNat % (fill [] items).1.length)).set ((((pl).toNat) % (1 + (((fr).toNat) % (((fill [] items).1).length))))) (y ++ (([33] : List UInt8)))).map of)).2.1.1).c, w32 ((clash ((((fill [] items).1).take (1 + (((fr).toNat) % (((fill [] items).1).length)))).map of) ((((fill [] items).1.take (1 + fr.toNat % (fill [] items).1.length)).set ((((pl).toNat) % (1 + (((fr).toNat) % (((fill [] items).1).length))))) (y ++ (([33] : List UInt8)))).map of)).2.1.1).d, w32 ((clash ((((fill [] items).1).take (1 + (((fr).toNat) % (((fill [] items).1).length)))).map of) ((((fill [] items).1.take (1 + fr.toNat % (fill [] items).1.length)).set ((((pl).toNat) % (1 + (((fr).toNat) % (((fill [] items).1).length))))) (y ++ (([33] : List UInt8)))).map of)).2.1.2).a, w32 ((clash ((((fill [] items).1).take (1 + (((fr).toNat) % (((fill [] items).1).length)))).map of) ((((fill [] items).1.take (1 + fr.toNat % (fill [] items).1.length)).set ((((pl).toNat) % (1 + (((fr).toNat) % (((fill [] items).1).length))))) (y ++ (([33] : List UInt8)))).map of)).2.1.2).b, w32 ((clash ((((fill [] items).1).take (1 + (((fr).toNat) % (((fill [] items).1).length)))).map of) ((((fill [] items).1.take (1 + fr.toNat % (fill [] items).1.length)).set ((((pl).toNat) % (1 + (((fr).toNat) % (((fill [] items).1).length))))) (y ++ (([33] : List UInt8)))).map of)).2.1.2).c, w32 ((clash ((((fill [] items).1).take (1 + (((fr).toNat) % (((fill [] items).1).length)))).map of) ((((fill [] items).1.take (1 + fr.toNat % (fill [] items).1.length)).set ((((pl).toNat) % (1 + (((fr).toNat) % (((fill [] items).1).length))))) (y ++ (([33] : List UInt8)))).map of)).2.1.2).d], Value.bool ((clash ((((fill [] items).1).take (1 + (((fr).toNat) % (((fill [] items).1).length)))).map of) ((((fill [] items).1.take (1 + fr.toNat % (fill [] items).1.length)).set ((((pl).toNat) % (1 + (((fr).toNat) % (((fill [] items).1).length))))) (y ++ (([33] : List UInt8)))).map of)).2.2)]) (hT 113 rfl rfl) ⟨Ext.refl _, rfl⟩
 exact Ask.plain rfl rfl fun aq wq hNq hO hR hT => does_extract (V := Value.agg #[w32 ((clash ((((fill [] items).1).take (1 + (((fr).toNat) % (((fill [] items).1).length)))).map of) ((((fill [] items).1.take (1 + fr.toNat % (fill [] items).1.length)).set ((((pl).toNat) % (1 + (((fr).toNat) % (((fill [] items).1).length))))) (y ++ (([33] : List UInt8)))).map of)).1.1).a, w32 ((clash ((((fill [] items).1).take (1 + (((fr).toNat) % (((fill [] items).1).length)))).map of) ((((fill [] items).1.take (1 + fr.toNat % (fill [] items).1.length)).set ((((pl).toNat) % (1 + (((fr).toNat) % (((fill [] items).1).length))))) (y ++ (([33] : List UInt8)))).map of)).1.1).b, w32 ((clash ((((fill [] items).1).take (1 + (((fr).toNat) % (((fill [] items).1).length)))).map of) ((((fill [] items).1.take (1 + fr.toNat % (fill [] items).1.length)).set ((((pl).toNat) % (1 + (((fr).toNat) % (((fill [] items).1).length))))) (y ++ (([33] : List UInt8)))).map of)).1.1).c, w32 ((clash ((((fill [] items).1).take (1 + (((fr).toNat) % (((fill [] items).1).length)))).map of) ((((fill [] items).1.take (1 + fr.toNat % (fill [] items).1.length)).set ((((pl).toNat) % (1 + (((fr).toNat) % (((fill [] items).1).length))))) (y ++ (([33] : List UInt8)))).map of)).1.1).d, w32 ((clash ((((fill [] items).1).take (1 + (((fr).toNat) % (((fill [] items).1).length)))).map of) ((((fill [] items).1.take (1 + fr.toNat % (fill [] items).1.length)).set ((((pl).toNat) % (1 + (((fr).toNat) % (((fill [] items).1).length))))) (y ++ (([33] : List UInt8)))).map of)).1.2).a, w32 ((clash ((((fill [] items).1).take (1 + (((fr).toNat) % (((fill [] items).1).length)))).map of) ((((fill [] items).1.take (1 + fr.toNat % (fill [] items).1.length)).set ((((pl).toNat) % (1 + (((fr).toNat) % (((fill [] items).1).length))))) (y ++ (([33] : List UInt8)))).map of)).1.2).b, w32 ((clash ((((fill [] items).1).take (1 + (((fr).toNat) % (((fill [] items).1).length)))).map of) ((((fill [] items).1.take (1 + fr.toNat % (fill [] items).1.length)).set ((((pl).toNat) % (1 + (((fr).toNat) % (((fill [] items).1).length))))) (y ++ (([33] : List UInt8)))).map of)).1.2).c, w32 ((clash ((((fill [] items).1).take (1 + (((fr).toNat) % (((fill [] items).1).length)))).map of) ((((fill [] items).1.take (1 + fr.toNat % (fill [] items).1.length)).set ((((pl).toNat) % (1 + (((fr).toNat) % (((fill [] items).1).length))))) (y ++ (([33] : List UInt8)))).map of)).1.2).d]) (hT 110 rfl rfl) rfl ⟨Ext.refl _, rfl⟩
 exact Ask.plain rfl rfl fun aq wq hNq hO hR hT => does_extract (V := Value.agg #[w32 ((clash ((((fill [] items).1).take (1 + (((fr).toNat) % (((fill [] items).1).length)))).map of) ((((fill [] items).1.take (1 + fr.toNat % (fill [] items).1.length)).set ((((pl).toNat) % (1 + (((fr).toNat) % (((fill [] items).1).length))))) (y ++ (([33] : List UInt8)))).map of)).2.1.1).a, w32 ((clash ((((fill [] items).1).take (1 + (((fr).toNat) % (((fill [] items).1).length)))).map of) ((((fill [] items).1.take (1 + fr.toNat % (fill [] items).1.length)).set ((((pl).toNat) % (1 + (((fr).toNat) % (((fill [] items).1).length))))) (y ++ (([33] : List UInt8)))).map of)).2.1.1).b, w32 ((clash ((((fill [] items).1).take (1 + (((fr).toNat) % (((fill [] items).1).length)))).map of) ((((fill [] items).1.take (1 + fr.toNat % (fill [] items).1.length)).set ((((pl).toNat) % (1 + (((fr).toNat) % (((fill [] items).1).length))))) (y ++ (([33] : List UInt8)))).map of)).2.1.1).c, w32 ((clash ((((fill [] items).1).take (1 + (((fr).toNat) % (((fill [] items).1).length)))).map of) ((((fill [] items).1.take (1 + fr.toNat % (fill [] items).1.length)).set ((((pl).toNat) % (1 + (((fr).toNat) % (((fill [] items).1).length))))) (y ++ (([33] : List UInt8)))).map of)).2.1.1).d, w32 ((clash ((((fill [] items).1).take (1 + (((fr).toNat) % (((fill [] items).1).length)))).map of) ((((fill [] items).1.take (1 + fr.toNat % (fill [] items).1.length)).set ((((pl).toNat) % (1 + (((fr).toNat) % (((fill [] items).1).length))))) (y ++ (([33] : List UInt8)))).map of)).2.1.2).a, w32 ((clash ((((fill [] items).1).take (1 + (((fr).toNat) % (((fill [] items).1).length)))).map of) ((((fill [] items).1.take (1 + fr.toNat % (fill [] items).1.length)).set ((((pl).toNat) % (1 + (((fr).toNat) % (((fill [] items).1).length))))) (y ++ (([33] : List UInt8)))).map of)).2.1.2).b, w32 ((clash ((((fill [] items).1).take (1 + (((fr).toNat) % (((fill [] items).1).length)))).map of) ((((fill [] items).1.take (1 + fr.toNat % (fill [] items).1.length)).set ((((pl).toNat) % (1 + (((fr).toNat) % (((fill [] items).1).length))))) (y ++ (([33] : List UInt8)))).map of)).2.1.2).c, w32 ((clash ((((fill [] items).1).take (1 + (((fr).toNat) % (((fill [] items).1).length)))).map of) ((((fill [] items).1.take (1 + fr.toNat % (fill [] items).1.length)).set ((((pl).toNat) % (1 + (((fr).toNat) % (((fill [] items).1).length))))) (y ++ (([33] : List UInt8)))).map of)).2.1.2).d]) (hT 110 rfl rfl) rfl ⟨Ext.refl _, rfl⟩
 exact Ask.plain rfl rfl fun aq wq hNq hO hR hT => does_extract (V := Value.bool ((clash ((((fill [] items).1).take (1 + (((fr).toNat) % (((fill [] items).1).length)))).map of) ((((fill [] items).1.take (1 + fr.toNat % (fill [] items).1.length)).set ((((pl).toNat) % (1 + (((fr).toNat) % (((fill [] items).1).length))))) (y ++ (([33] : List UInt8)))).map of)).2.2)) (hT 110 rfl rfl) rfl ⟨Ext.refl _, rfl⟩
 refine Ask.fresh rfl rfl ?_
 intro aq wq hNq hO hR hT
 exact does_alloc zero_44 (fun b w2 he hlo hb => ⟨he, ⟨b, rfl, Nat.le_trans hR.size' hlo, hb⟩, ⟨b, rfl, hlo, hb.lt⟩⟩)
 refine Ask.fresh rfl rfl ?_
 intro aq wq hNq hO hR hT
 exact does_alloc zero_44 (fun b w2 he hlo hb => ⟨he, ⟨b, rfl, Nat.le_trans hR.size' hlo, hb⟩, ⟨b, rfl, hlo, hb.lt⟩⟩)
 intro a26 wd26 hN_26 hD_26 hO hR hA hU
 obtain ⟨_, _, _, _, t114, t115, t116, t19, t20, _⟩ := hA
 have hE_26 := hE_25.trans hR
 have s7_26 := (hO 7 rfl).trans s7_24
 have s14_26 := (hO 14 rfl).trans s14_24
 have s16_26 := (hO 16 rfl).trans s16_24
 have s17_26 := (hO 17 rfl).trans s17_24
 have s18_26 := (hO 18 rfl).trans s18_24
 have hbb7_26 := hbb7_25.ext' hR
 have hbb10_26 := hbb10_25.ext' hR
 have hbb11_26 := hbb11_25.ext' hR
 have hbb18_26 := hbb18_25.ext' hR
 have hsx1_26 := hsx1_25.ext' hR
 have hsx33_0_4_26 := hsx33_0_4_25.ext' hR
 have hsx90_26 := hsx90_25.ext' hR
 have hsx16_26 := hsx16_25.ext' hR
 have hsx17_26 := hsx17_25.ext' hR
 have hox90_26 := hox90_25.ext' hR
 have hox16_26 := hox16_25.ext' hR
 have hox17_26 := hox17_25.ext' hR
 have s114_26 : get a26 114 = Value.agg #[w32 ((clash ((((fill [] items).1).take (1 + (((fr).toNat) % (((fill [] items).1).length)))).map of) ((((fill [] items).1.take (1 + fr.toNat % (fill [] items).1.length)).set ((((pl).toNat) % (1 + (((fr).toNat) % (((fill [] items).1).length))))) (y ++ (([33] : List UInt8)))).map of)).1.1).a, w32 ((clash ((((fill [] items).1).take (1 + (((fr).toNat) % (((fill [] items).1).length)))).map of) ((((fill [] items).1.take (1 + fr.toNat % (fill [] items).1.length)).set ((((pl).toNat) % (1 + (((fr).toNat) % (((fill [] items).1).length))))) (y ++ (([33] : List UInt8)))).map of)).1.1).b, w32 ((clash ((((fill [] items).1).take (1 + (((fr).toNat) % (((fill [] items).1).length)))).map of) ((((fill [] items).1.take (1 + fr.toNat % (fill [] items).1.length)).set ((((pl).toNat) % (1 + (((fr).toNat) % (((fill [] items).1).length))))) (y ++ (([33] : List UInt8)))).map of)).1.1).c, w32 ((clash ((((fill [] items).1).take (1 + (((fr).toNat) % (((fill [] items).1).length)))).map of) ((((fill [] items).1.take (1 + fr.toNat % (fill [] items).1.length)).set ((((pl).toNat) % (1 + (((fr).toNat) % (((fill [] items).1).length))))) (y ++ (([33] : List UInt8)))).map of)).1.1).d, w32 ((clash ((((fill [] items).1).take (1 + (((fr).toNat) % (((fill [] items).1).length)))).map of) ((((fill [] items).1.take (1 + fr.toNat % (fill [] items).1.length)).set ((((pl).toNat) % (1 + (((fr).toNat) % (((fill [] items).1).length))))) (y ++ (([33] : List UInt8)))).map of)).1.2).a, w32 ((clash ((((fill [] items).1).take (1 + (((fr).toNat) % (((fill [] items).1).length)))).map of) ((((fill [] items).1.take (1 + fr.toNat % (fill [] items).1.length)).set ((((pl).toNat) % (1 + (((fr).toNat) % (((fill [] items).1).length))))) (y ++ (([33] : List UInt8)))).map of)).1.2).b, w32 ((clash ((((fill [] items).1).take (1 + (((fr).toNat) % (((fill [] items).1).length)))).map of) ((((fill [] items).1.take (1 + fr.toNat % (fill [] items).1.length)).set ((((pl).toNat) % (1 + (((fr).toNat) % (((fill [] items).1).length))))) (y ++ (([33] : List UInt8)))).map of)).1.2).c, w32 ((clash ((((fill [] items).1).take (1 + (((fr).toNat) % (((fill [] items).1).length)))).map of) ((((fill [] items).1.take (1 + fr.toNat % (fill [] items).1.length)).set ((((pl).toNat) % (1 + (((fr).toNat) % (((fill [] items).1).length))))) (y ++ (([33] : List UInt8)))).map of)).1.2).d] := t114
 have s115_26 : get a26 115 = Value.agg #[w32 ((clash ((((fill [] items).1).take (1 + (((fr).toNat) % (((fill [] items).1).length)))).map of) ((((fill [] items).1.take (1 + fr.toNat % (fill [] items).1.length)).set ((((pl).toNat) % (1 + (((fr).toNat) % (((fill [] items).1).length))))) (y ++ (([33] : List UInt8)))).map of)).2.1.1).a, w32 ((clash ((((fill [] items).1).take (1 + (((fr).toNat) % (((fill [] items).1).length)))).map of) ((((fill [] items).1.take (1 + fr.toNat % (fill [] items).1.length)).set ((((pl).toNat) % (1 + (((fr).toNat) % (((fill [] items).1).length))))) (y ++ (([33] : List UInt8)))).map of)).2.1.1).b, w32 ((clash ((((fill [] items).1).take (1 + (((fr).toNat) % (((fill [] items).1).length)))).map of) ((((fill [] items).1.take (1 + fr.toNat % (fill [] items).1.length)).set ((((pl).toNat) % (1 + (((fr).toNat) % (((fill [] items).1).length))))) (y ++ (([33] : List UInt8)))).map of)).2.1.1).c, w32 ((clash ((((fill [] items).1).take (1 + (((fr).toNat) % (((fill [] items).1).length)))).map of) ((((fill [] items).1.take (1 + fr.toNat % (fill [] items).1.length)).set ((((pl).toNat) % (1 + (((fr).toNat) % (((fill [] items).1).length))))) (y ++ (([33] : List UInt8)))).map of)).2.1.1).d, w32 ((clash ((((fill [] items).1).take (1 + (((fr).toNat) % (((fill [] items).1).length)))).map of) ((((fill [] items).1.take (1 + fr.toNat % (fill [] items).1.length)).set ((((pl).toNat) % (1 + (((fr).toNat) % (((fill [] items).1).length))))) (y ++ (([33] : List UInt8)))).map of)).2.1.2).a, w32 ((clash ((((fill [] items).1).take (1 + (((fr).toNat) % (((fill [] items).1).length)))).map of) ((((fill [] items).1.take (1 + fr.toNat % (fill [] items).1.length)).set ((((pl).toNat) % (1 + (((fr).toNat) % (((fill [] items).1).length))))) (y ++ (([33] : List UInt8)))).map of)).2.1.2).b, w32 ((clash ((((fill [] items).1).take (1 + (((fr).toNat) % (((fill [] items).1).length)))).map of) ((((fill [] items).1.take (1 + fr.toNat % (fill [] items).1.length)).set ((((pl).toNat) % (1 + (((fr).toNat) % (((fill [] items).1).length))))) (y ++ (([33] : List UInt8)))).map of)).2.1.2).c, w32 ((clash ((((fill [] items).1).take (1 + (((fr).toNat) % (((fill [] items).1).length)))).map of) ((((fill [] items).1.take (1 + fr.toNat % (fill [] items).1.length)).set ((((pl).toNat) % (1 + (((fr).toNat) % (((fill [] items).1).length))))) (y ++ (([33] : List UInt8)))).map of)).2.1.2).d] := t115
 have s116_26 : get a26 116 = Value.bool ((clash ((((fill [] items).1).take (1 + (((fr).toNat) % (((fill [] items).1).length)))).map of) ((((fill [] items).1.take (1 + fr.toNat % (fill [] items).1.length)).set ((((pl).toNat) % (1 + (((fr).toNat) % (((fill [] items).1).length))))) (y ++ (([33] : List UInt8)))).map of)).2.2) := t116
 obtain ⟨b19, s19_26, lo_b19, hbb19_26⟩ := t19
 have ne_b7_b19 : b7 ≠ b19 := fun e => Nat.lt_irrefl _ (Nat.lt_of_lt_of_le hbb7_25.lt (e ▸ lo_b19))
 have ne_b10_b19 : b10 ≠ b19 := fun e => Nat.lt_irrefl _ (Nat.lt_of_lt_of_le hbb10_25.lt (e ▸ lo_b19))
 have ne_b11_b19 : b11 ≠ b19 := fun e => Nat.lt_irrefl _ (Nat.lt_of_lt_of_le hbb11_25.lt (e ▸ lo_b19))
 have ne_b18_b19 : b18 ≠ b19 := fun e => Nat.lt_irrefl _ (Nat.lt_of_lt_of_le hbb18_25.lt (e ▸ lo_b19))
 have nb_x1_b19 := SlT.old hsx1_25 lo_b19
 have nb_x33_0_4_b19 := SlT.old hsx33_0_4_25 lo_b19
 have nb_x90_b19 := SlT.old hsx90_25 lo_b19
 have nb_x16_b19 := SlT.old hsx16_25 lo_b19
 have nb_x17_b19 := SlT.old hsx17_25 lo_b19
 have nbo_x90_b19 : x90.ownBlock ≠ some b19 := fun e => Nat.lt_irrefl _ (Nat.lt_of_lt_of_le (OwnT.block_lt hox90_25 e).2 lo_b19)
 have nbo_x16_b19 : x16.ownBlock ≠ some b19 := fun e => Nat.lt_irrefl _ (Nat.lt_of_lt_of_le (OwnT.block_lt hox16_25 e).2 lo_b19)
 have nbo_x17_b19 : x17.ownBlock ≠ some b19 := fun e => Nat.lt_irrefl _ (Nat.lt_of_lt_of_le (OwnT.block_lt hox17_25 e).2 lo_b19)
 have fr_b19 : w0.heap.size ≤ b19 := Nat.le_trans hE_25.size' lo_b19
 obtain ⟨b20, s20_26, lo_b20, hbb20_26⟩ := t20
 have ne_b7_b20 : b7 ≠ b20 := fun e => Nat.lt_irrefl _ (Nat.lt_of_lt_of_le hbb7_25.lt (e ▸ lo_b20))
 have ne_b10_b20 : b10 ≠ b20 := fun e => Nat.lt_irrefl _ (Nat.lt_of_lt_of_le hbb10_25.lt (e ▸ lo_b20))
 have ne_b11_b20 : b11 ≠ b20 := fun e => Nat.lt_irrefl _ (Nat.lt_of_lt_of_le hbb11_25.lt (e ▸ lo_b20))
 have ne_b18_b20 : b18 ≠ b20 := fun e => Nat.lt_irrefl _ (Nat.lt_of_lt_of_le hbb18_25.lt (e ▸ lo_b20))
 have nb_x1_b20 := SlT.old hsx1_25 lo_b20
 have nb_x33_0_4_b20 := SlT.old hsx33_0_4_25 lo_b20
 have nb_x90_b20 := SlT.old hsx90_25 lo_b20
 have nb_x16_b20 := SlT.old hsx16_25 lo_b20
 have nb_x17_b20 := SlT.old hsx17_25 lo_b20
 have nbo_x90_b20 : x90.ownBlock ≠ some b20 := fun e => Nat.lt_irrefl _ (Nat.lt_of_lt_of_le (OwnT.block_lt hox90_25 e).2 lo_b20)
 have nbo_x16_b20 : x16.ownBlock ≠ some b20 := fun e => Nat.lt_irrefl _ (Nat.lt_of_lt_of_le (OwnT.block_lt hox16_25 e).2 lo_b20)
 have nbo_x17_b20 : x17.ownBlock ≠ some b20 := fun e => Nat.lt_irrefl _ (Nat.lt_of_lt_of_le (OwnT.block_lt hox17_25 e).2 lo_b20)
 have fr_b20 : w0.heap.size ≤ b20 := Nat.le_trans hE_25.size' lo_b20
 obtain ⟨u0, ⟨u1, _⟩⟩ := hU
 have ne_b19_b20 : b19 ≠ b20 := fun e => u0 20 (by decide) (by rw [s19_26, s20_26, e])
 clear hE_25 hN_24 hD_24 s7_24 s14_24 s16_24 s17_24 s18_24 s109_24 hbb7_25 hbb10_25 hbb11_25 hbb18_25 hsx1_25 hsx33_0_4_25 hsx90_25 hsx16_25 hsx17_25 hox90_25 hox16_25 hox17_25
 refine tail_none rfl rfl (does_storeD (o := 0) (n := 8) (cs' := [w32 ((clash ((((fill [] items).1).take (1 + (((fr).toNat) % (((fill [] items).1).length)))).map of) ((((fill [] items).1.take (1 + fr.toNat % (fill [] items).1.length)).set ((((pl).toNat) % (1 + (((fr).toNat) % (((fill [] items).1).length))))) (y ++ (([33] : List UInt8)))).map of)).1.1).a, w32 ((clash ((((fill [] items).1).take (1 + (((fr).toNat) % (((fill [] items).1).length)))).map of) ((((fill [] items).1.take (1 + fr.toNat % (fill [] items).1.length)).set ((((pl).toNat) % (1 + (((fr).toNat) % (((fill [] items).1).length))))) (y ++ (([33] : List UInt8)))).map of)).1.1).b, w32 ((clash ((((fill [] items).1).take (1 + (((fr).toNat) % (((fill [] items).1).length)))).map of) ((((fill [] items).1.take (1 + fr.toNat % (fill [] items).1.length)).set ((((pl).toNat) % (1 + (((fr).toNat) % (((fill [] items).1).length))))) (y ++ (([33] : List UInt8)))).map of)).1.1).c, w32 ((clash ((((fill [] items).1).take (1 + (((fr).toNat) % (((fill [] items).1).length)))).map of) ((((fill [] items).1.take (1 + fr.toNat % (fill [] items).1.length)).set ((((pl).toNat) % (1 + (((fr).toNat) % (((fill [] items).1).length))))) (y ++ (([33] : List UInt8)))).map of)).1.1).d, w32 ((clash ((((fill [] items).1).take (1 + (((fr).toNat) % (((fill [] items).1).length)))).map of) ((((fill [] items).1.take (1 + fr.toNat % (fill [] items).1.length)).set ((((pl).toNat) % (1 + (((fr).toNat) % (((fill [] items).1).length))))) (y ++ (([33] : List UInt8)))).map of)).1.2).a, w32 ((clash ((((fill [] items).1).take (1 + (((fr).toNat) % (((fill [] items).1).length)))).map of) ((((fill [] items).1.take (1 + fr.toNat % (fill [] items).1.length)).set ((((pl).toNat) % (1 + (((fr).toNat) % (((fill [] items).1).length))))) (y ++ (([33] : List UInt8)))).map of)).1.2).b, w32 ((clash ((((fill [] items).1).take (1 + (((fr).toNat) % (((fill [] items).1).length)))).map of) ((((fill [] items).1.take (1 + fr.toNat % (fill [] items).1.length)).set ((((pl).toNat) % (1 + (((fr).toNat) % (((fill [] items).1).length))))) (y ++ (([33] : List UInt8)))).map of)).1.2).c, w32 ((clash ((((fill [] items).1).take (1 + (((fr).toNat) % (((fill [] items).1).length)))).map of) ((((fill [] items).1.take (1 + fr.toNat % (fill [] items).1.length)).set ((((pl).toNat) % (1 + (((fr).toNat) % (((fill [] items).1).length))))) (y ++ (([33] : List UInt8)))).map of)).1.2).d]) (V := Value.agg #[w32 ((clash ((((fill [] items).1).take (1 + (((fr).toNat) % (((fill [] items).1).length)))).map of) ((((fill [] items).1.take (1 + fr.toNat % (fill [] items).1.length)).set ((((pl).toNat) % (1 + (((fr).toNat) % (((fill [] items).1).length))))) (y ++ (([33] : List UInt8)))).map of)).1.1).a, w32 ((clash ((((fill [] items).1).take (1 + (((fr).toNat) % (((fill [] items).1).length)))).map of) ((((fill [] items).1.take (1 + fr.toNat % (fill [] items).1.length)).set ((((pl).toNat) % (1 + (((fr).toNat) % (((fill [] items).1).length))))) (y ++ (([33] : List UInt8)))).map of)).1.1).b, w32 ((clash ((((fill [] items).1).take (1 + (((fr).toNat) % (((fill [] items).1).length)))).map of) ((((fill [] items).1.take (1 + fr.toNat % (fill [] items).1.length)).set ((((pl).toNat) % (1 + (((fr).toNat) % (((fill [] items).1).length))))) (y ++ (([33] : List UInt8)))).map of)).1.1).c, w32 ((clash ((((fill [] items).1).take (1 + (((fr).toNat) % (((fill [] items).1).length)))).map of) ((((fill [] items).1.take (1 + fr.toNat % (fill [] items).1.length)).set ((((pl).toNat) % (1 + (((fr).toNat) % (((fill [] items).1).length))))) (y ++ (([33] : List UInt8)))).map of)).1.1).d, w32 ((clash ((((fill [] items).1).take (1 + (((fr).toNat) % (((fill [] items).1).length)))).map of) ((((fill [] items).1.take (1 + fr.toNat % (fill [] items).1.length)).set ((((pl).toNat) % (1 + (((fr).toNat) % (((fill [] items).1).length))))) (y ++ (([33] : List UInt8)))).map of)).1.2).a, w32 ((clash ((((fill [] items).1).take (1 + (((fr).toNat) % (((fill [] items).1).length)))).map of) ((((fill [] items).1.take (1 + fr.toNat % (fill [] items).1.length)).set ((((pl).toNat) % (1 + (((fr).toNat) % (((fill [] items).1).length))))) (y ++ (([33] : List UInt8)))).map of)).1.2).b, w32 ((clash ((((fill [] items).1).take (1 + (((fr).toNat) % (((fill [] items).1).length)))).map of) ((((fill [] items).1.take (1 + fr.toNat % (fill [] items).1.length)).set ((((pl).toNat) % (1 + (((fr).toNat) % (((fill [] items).1).length))))) (y ++ (([33] : List UInt8)))).map of)).1.2).c, w32 ((clash ((((fill [] items).1).take (1 + (((fr).toNat) % (((fill [] items).1).length)))).map of) ((((fill [] items).1.take (1 + fr.toNat % (fill [] items).1.length)).set ((((pl).toNat) % (1 + (((fr).toNat) % (((fill [] items).1).length))))) (y ++ (([33] : List UInt8)))).map of)).1.2).d]) s19_26 s114_26 hbb19_26 (Nat.le_of_ble_eq_true rfl) rfl siz_44 rfl rfl (fun wd27 hX hz hbb19_27 => ?_))
 have hE_27 := hE_26.since hX (fun k e => e ▸ fr_b19)
 have hbb7_27 := hbb7_26.ext hX ne_b7_b19
 have hbb10_27 := hbb10_26.ext hX ne_b10_b19
 have hbb11_27 := hbb11_26.ext hX ne_b11_b19
 have hbb18_27 := hbb18_26.ext hX ne_b18_b19
 have hbb20_27 := hbb20_26.ext hX ne_b19_b20.symm
 have hsx1_27 := SlT.over hsx1_26 hX nb_x1_b19
 have hsx33_0_4_27 := SlT.over hsx33_0_4_26 hX nb_x33_0_4_b19
 have hsx90_27 := SlT.over hsx90_26 hX nb_x90_b19
 have hsx16_27 := SlT.over hsx16_26 hX nb_x16_b19
 have hsx17_27 := SlT.over hsx17_26 hX nb_x17_b19
 have hox90_27 := OwnT.ext hox90_26 hX (fun k hk e => nbo_x90_b19 (e ▸ hk))
 have hox16_27 := OwnT.ext hox16_26 hX (fun k hk e => nbo_x16_b19 (e ▸ hk))
 have hox17_27 := OwnT.ext hox17_26 hX (fun k hk e => nbo_x17_b19 (e ▸ hk))
 clear hX hz hE_26 hbb7_26 hbb10_26 hbb11_26 hbb18_26 hbb19_26 hbb20_26 hsx1_26 hsx33_0_4_26 hsx90_26 hsx16_26 hsx17_26 hox90_26 hox16_26 hox17_26
 refine tail_none rfl rfl (does_storeD (o := 0) (n := 8) (cs' := [w32 ((clash ((((fill [] items).1).take (1 + (((fr).toNat) % (((fill [] items).1).length)))).map of) ((((fill [] items).1.take (1 + fr.toNat % (fill [] items).1.length)).set ((((pl).toNat) % (1 + (((fr).toNat) % (((fill [] items).1).length))))) (y ++ (([33] : List UInt8)))).map of)).2.1.1).a, w32 ((clash ((((fill [] items).1).take (1 + (((fr).toNat) % (((fill [] items).1).length)))).map of) ((((fill [] items).1.take (1 + fr.toNat % (fill [] items).1.length)).set ((((pl).toNat) % (1 + (((fr).toNat) % (((fill [] items).1).length))))) (y ++ (([33] : List UInt8)))).map of)).2.1.1).b, w32 ((clash ((((fill [] items).1).take (1 + (((fr).toNat) % (((fill [] items).1).length)))).map of) ((((fill [] items).1.take (1 + fr.toNat % (fill [] items).1.length)).set ((((pl).toNat) % (1 + (((fr).toNat) % (((fill [] items).1).length))))) (y ++ (([33] : List UInt8)))).map of)).2.1.1).c, w32 ((clash ((((fill [] items).1).take (1 + (((fr).toNat) % (((fill [] items).1).length)))).map of) ((((fill [] items).1.take (1 + fr.toNat % (fill [] items).1.length)).set ((((pl).toNat) % (1 + (((fr).toNat) % (((fill [] items).1).length))))) (y ++ (([33] : List UInt8)))).map of)).2.1.1).d, w32 ((clash ((((fill [] items).1).take (1 + (((fr).toNat) % (((fill [] items).1).length)))).map of) ((((fill [] items).1.take (1 + fr.toNat % (fill [] items).1.length)).set ((((pl).toNat) % (1 + (((fr).toNat) % (((fill [] items).1).length))))) (y ++ (([33] : List UInt8)))).map of)).2.1.2).a, w32 ((clash ((((fill [] items).1).take (1 + (((fr).toNat) % (((fill [] items).1).length)))).map of) ((((fill [] items).1.take (1 + fr.toNat % (fill [] items).1.length)).set ((((pl).toNat) % (1 + (((fr).toNat) % (((fill [] items).1).length))))) (y ++ (([33] : List UInt8)))).map of)).2.1.2).b, w32 ((clash ((((fill [] items).1).take (1 + (((fr).toNat) % (((fill [] items).1).length)))).map of) ((((fill [] items).1.take (1 + fr.toNat % (fill [] items).1.length)).set ((((pl).toNat) % (1 + (((fr).toNat) % (((fill [] items).1).length))))) (y ++ (([33] : List UInt8)))).map of)).2.1.2).c, w32 ((clash ((((fill [] items).1).take (1 + (((fr).toNat) % (((fill [] items).1).length)))).map of) ((((fill [] items).1.take (1 + fr.toNat % (fill [] items).1.length)).set ((((pl).toNat) % (1 + (((fr).toNat) % (((fill [] items).1).length))))) (y ++ (([33] : List UInt8)))).map of)).2.1.2).d]) (V := Value.agg #[w32 ((clash ((((fill [] items).1).take (1 + (((fr).toNat) % (((fill [] items).1).length)))).map of) ((((fill [] items).1.take (1 + fr.toNat % (fill [] items).1.length)).set ((((pl).toNat) % (1 + (((fr).toNat) % (((fill [] items).1).length))))) (y ++ (([33] : List UInt8)))).map of)).2.1.1).a, w32 ((clash ((((fill [] items).1).take (1 + (((fr).toNat) % (((fill [] items).1).length)))).map of) ((((fill [] items).1.take (1 + fr.toNat % (fill [] items).1.length)).set ((((pl).toNat) % (1 + (((fr).toNat) % (((fill [] items).1).length))))) (y ++ (([33] : List UInt8)))).map of)).2.1.1).b, w32 ((clash ((((fill [] items).1).take (1 + (((fr).toNat) % (((fill [] items).1).length)))).map of) ((((fill [] items).1.take (1 + fr.toNat % (fill [] items).1.length)).set ((((pl).toNat) % (1 + (((fr).toNat) % (((fill [] items).1).length))))) (y ++ (([33] : List UInt8)))).map of)).2.1.1).c, w32 ((clash ((((fill [] items).1).take (1 + (((fr).toNat) % (((fill [] items).1).length)))).map of) ((((fill [] items).1.take (1 + fr.toNat % (fill [] items).1.length)).set ((((pl).toNat) % (1 + (((fr).toNat) % (((fill [] items).1).length))))) (y ++ (([33] : List UInt8)))).map of)).2.1.1).d, w32 ((clash ((((fill [] items).1).take (1 + (((fr).toNat) % (((fill [] items).1).length)))).map of) ((((fill [] items).1.take (1 + fr.toNat % (fill [] items).1.length)).set ((((pl).toNat) % (1 + (((fr).toNat) % (((fill [] items).1).length))))) (y ++ (([33] : List UInt8)))).map of)).2.1.2).a, w32 ((clash ((((fill [] items).1).take (1 + (((fr).toNat) % (((fill [] items).1).length)))).map of) ((((fill [] items).1.take (1 + fr.toNat % (fill [] items).1.length)).set ((((pl).toNat) % (1 + (((fr).toNat) % (((fill [] items).1).length))))) (y ++ (([33] : List UInt8)))).map of)).2.1.2).b, w32 ((clash ((((fill [] items).1).take (1 + (((fr).toNat) % (((fill [] items).1).length)))).map of) ((((fill [] items).1.take (1 + fr.toNat % (fill [] items).1.length)).set ((((pl).toNat) % (1 + (((fr).toNat) % (((fill [] items).1).length))))) (y ++ (([33] : List UInt8)))).map of)).2.1.2).c, w32 ((clash ((((fill [] items).1).take (1 + (((fr).toNat) % (((fill [] items).1).length)))).map of) ((((fill [] items).1.take (1 + fr.toNat % (fill [] items).1.length)).set ((((pl).toNat) % (1 + (((fr).toNat) % (((fill [] items).1).length))))) (y ++ (([33] : List UInt8)))).map of)).2.1.2).d]) s20_26 s115_26 hbb20_27 (Nat.le_of_ble_eq_true rfl) rfl siz_44 rfl rfl (fun wd28 hX hz hbb20_28 => ?_))
 have hE_28 := hE_27.since hX (fun k e => e ▸ fr_b20)
 have hbb7_28 := hbb7_27.ext hX ne_b7_b20
 have hbb10_28 := hbb10_27.ext hX ne_b10_b20
 have hbb11_28 := hbb11_27.ext hX ne_b11_b20
 have hbb18_28 := hbb18_27.ext hX ne_b18_b20
 have hbb19_28 := hbb19_27.ext hX ne_b19_b20
 have hsx1_28 := SlT.over hsx1_27 hX nb_x1_b20
 have hsx33_0_4_28 := SlT.over hsx33_0_4_27 hX nb_x33_0_4_b20
 have hsx90_28 := SlT.over hsx90_27 hX nb_x90_b20
 have hsx16_28 := SlT.over hsx16_27 hX nb_x16_b20
 have hsx17_28 := SlT.over hsx17_27 hX nb_x17_b20
 have hox90_28 := OwnT.ext hox90_27 hX (fun k hk e => nbo_x90_b20 (e ▸ hk))
 have hox16_28 := OwnT.ext hox16_27 hX (fun k hk e => nbo_x16_b20 (e ▸ hk))
 have hox17_28 := OwnT.ext hox17_27 hX (fun k hk e => nbo_x17_b20 (e ▸ hk))
 clear hX hz hE_27 hbb7_27 hbb10_27 hbb11_27 hbb18_27 hbb19_27 hbb20_27 hsx1_27 hsx33_0_4_27 hsx90_27 hsx16_27 hsx17_27 hox90_27 hox16_27 hox17_27
 refine tail_put rfl rfl hN_26 hD_26 (by decide) (does_assign (V := Value.bool ((clash ((((fill [] items).1).take (1 + (((fr).toNat) % (((fill [] items).1).length)))).map of) ((((fill [] items).1.take (1 + fr.toNat % (fill [] items).1.length)).set ((((pl).toNat) % (1 + (((fr).toNat) % (((fill [] items).1).length))))) (y ++ (([33] : List UInt8)))).map of)).2.2)) s116_26 (fun a29 hN_29 hD_29 hv hO => ?_))
 have s21_29 := hv
 have s7_29 := (hO 7 rfl).trans s7_26
 have s14_29 := (hO 14 rfl).trans s14_26
 have s16_29 := (hO 16 rfl).trans s16_26
 have s17_29 := (hO 17 rfl).trans s17_26
 have s18_29 := (hO 18 rfl).trans s18_26
 clear hO hv hN_26 hD_26 s7_26 s14_26 s16_26 s17_26 s18_26 s19_26 s20_26 s114_26 s115_26 s116_26
 refine tail_nil ?_
 refine wp_seq ?_
 refine wp_seq ?_
 refine region_any [] [(117, Pr.ex (x16)), (118, Pr.ex (i64 ((((pl).toNat) % (1 + (((fr).toNat) % (((fill [] items).1).length))) : Nat) : Int))), (119, Pr.pt' 0 0 [w32 (((((fill [] items).1.take (1 + fr.toNat % (fill [] items).1.length)).map of).getD (pl.toNat % (1 + fr.toNat % (fill [] items).1.length)) Dg.zero)).a, w32 (((((fill [] items).1.take (1 + fr.toNat % (fill [] items).1.length)).map of).getD (pl.toNat % (1 + fr.toNat % (fill [] items).1.length)) Dg.zero)).b, w32 (((((fill [] items).1.take (1 + fr.toNat % (fill [] items).1.length)).map of).getD (pl.toNat % (1 + fr.toNat % (fill [] items).1.length)) Dg.zero)).c, w32 (((((fill [] items).1.take (1 + fr.toNat % (fill [] items).1.length)).map of).getD (pl.toNat % (1 + fr.toNat % (fill [] items).1.length)) Dg.zero)).d]), (120, Pr.ex (Dg.val (((((fill [] items).1.take (1 + fr.toNat % (fill [] items).1.length)).map of).getD (pl.toNat % (1 + fr.toNat % (fill [] items).1.length)) Dg.zero)))), (121, Pr.ex (x17)), (122, Pr.ex (i64 ((((pl).toNat) % (1 + (((fr).toNat) % (((fill [] items).1).length))) : Nat) : Int))), (123, Pr.pt' 0 0 [w32 ((((((fill [] items).1.take (1 + fr.toNat % (fill [] items).1.length)).set (pl.toNat % (1 + fr.toNat % (fill [] items).1.length)) (y ++ ([33] : List UInt8))).map of).getD (pl.toNat % (1 + fr.toNat % (fill [] items).1.length)) Dg.zero)).a, w32 ((((((fill [] items).1.take (1 + fr.toNat % (fill [] items).1.length)).set (pl.toNat % (1 + fr.toNat % (fill [] items).1.length)) (y ++ ([33] : List UInt8))).map of).getD (pl.toNat % (1 + fr.toNat % (fill [] items).1.length)) Dg.zero)).b, w32 ((((((fill [] items).1.take (1 + fr.toNat % (fill [] items).1.length)).set (pl.toNat % (1 + fr.toNat % (fill [] items).1.length)) (y ++ ([33] : List UInt8))).map of).getD (pl.toNat % (1 + fr.toNat % (fill [] items).1.length)) Dg.zero)).c, w32 ((((((fill [] items).1.take (1 + fr.toNat % (fill [] items).1.length)).set (pl.toNat % (1 + fr.toNat % (fill [] items).1.length)) (y ++ ([33] : List UInt8))).map of).getD (pl.toNat % (1 + fr.toNat % (fill [] items).1.length)) Dg.zero)).d]), (124, Pr.ex (Dg.val ((((((fill [] items).1.take (1 + fr.toNat % (fill [] items).1.length)).set (pl.toNat % (1 + fr.toNat % (fill [] items).1.length)) (y ++ ([33] : List UInt8))).map of).getD (pl.toNat % (1 + fr.toNat % (fill [] items).1.length)) Dg.zero)))), (125, Pr.ex (Value.bool (decide (((((fill [] items).1.take (1 + fr.toNat % (fill [] items).1.length)).map of).getD (pl.toNat % (1 + fr.toNat % (fill [] items).1.length)) Dg.zero) = (((((fill [] items).1.take (1 + fr.toNat % (fill [] items).1.length)).set (pl.toNat % (1 + fr.toNat % (fill [] items).1.length)) (y ++ ([33] : List UInt8))).map of).getD (pl.toNat % (1 + fr.toNat % (fill [] items).1.length)) Dg.zero)))))] 9 mixed hN_29 hD_29 (by kernel_rfl) (by kernel_rfl) (by kernel_rfl) ?_ ?_
 refine Asks.cons ?_ (Asks.cons ?_ (Asks.cons ?_ (Asks.cons ?_ (Asks.cons ?_ (Asks.cons ?_ (Asks.cons ?_ (Asks.cons ?_ (Asks.cons ?_ (Asks.zero _)))))))))
 exact Ask.plainD rfl rfl fun aq wq hNq hO hR hT => does_move (V := x16) ((hO 16 rfl).trans s16_29) ⟨Ext.refl _, rfl⟩
 exact Ask.plainD rfl rfl fun aq wq hNq hO hR hT => does_move (V := i64 ((((pl).toNat) % (1 + (((fr).toNat) % (((fill [] items).1).length))) : Nat) : Int)) ((hO 14 rfl).trans s14_29) ⟨Ext.refl _, rfl⟩
 exact Ask.plainD rfl rfl fun aq wq hNq hO hR hT => does_indexSl (T := DG) (xs := (((fill [] items).1).take (1 + (((fr).toNat) % (((fill [] items).1).length)))).map of) (i := ((((pl).toNat) % (1 + (((fr).toNat) % (((fill [] items).1).length))) : Nat) : Int)) (X := ((((fill [] items).1.take (1 + fr.toNat % (fill [] items).1.length)).map of).getD (pl.toNat % (1 + fr.toNat % (fill [] items).1.length)) Dg.zero)) sli_41 rfl (SlT.at (hT 117 rfl rfl) (hsx16_28.ext' hR)) (hT 118 rfl rfl) (by omega) (getD_get (by rw [List.length_map]; omega)) (fun v h => ⟨Ext.refl _, h⟩)
 exact Ask.plainD rfl rfl fun aq wq hNq hO hR hT => does_loadP (cs := [w32 (((((fill [] items).1.take (1 + fr.toNat % (fill [] items).1.length)).map of).getD (pl.toNat % (1 + fr.toNat % (fill [] items).1.length)) Dg.zero)).a, w32 (((((fill [] items).1.take (1 + fr.toNat % (fill [] items).1.length)).map of).getD (pl.toNat % (1 + fr.toNat % (fill [] items).1.length)) Dg.zero)).b, w32 (((((fill [] items).1.take (1 + fr.toNat % (fill [] items).1.length)).map of).getD (pl.toNat % (1 + fr.toNat % (fill [] items).1.length)) Dg.zero)).c, w32 (((((fill [] items).1.take (1 + fr.toNat % (fill [] items).1.length)).map of).getD (pl.toNat % (1 + fr.toNat % (fill [] items).1.length)) Dg.zero)).d]) (hT 119 rfl rfl) row_27 rfl ⟨Ext.refl _, rfl⟩
 exact Ask.plainD rfl rfl fun aq wq hNq hO hR hT => does_move (V := x17) ((hO 17 rfl).trans s17_29) ⟨Ext.refl _, rfl⟩
 exact Ask.plainD rfl rfl fun aq wq hNq hO hR hT => does_move (V := i64 ((((pl).toNat) % (1 + (((fr).toNat) % (((fill [] items).1).length))) : Nat) : Int)) ((hO 14 rfl).trans s14_29) ⟨Ext.refl _, rfl⟩
 exact Ask.plainD rfl rfl fun aq wq hNq hO hR hT => does_indexSl (T := DG) (xs := (((fill [] items).1.take (1 + fr.toNat % (fill [] items).1.length)).set ((((pl).toNat) % (1 + (((fr).toNat) % (((fill [] items).1).length))))) (y ++ (([33] : List UInt8)))).map of) (i := ((((pl).toNat) % (1 + (((fr).toNat) % (((fill [] items).1).length))) : Nat) : Int)) (X := (((((fill [] items).1.take (1 + fr.toNat % (fill [] items).1.length)).set (pl.toNat % (1 + fr.toNat % (fill [] items).1.length)) (y ++ ([33] : List UInt8))).map of).getD (pl.toNat % (1 + fr.toNat % (fill [] items).1.length)) Dg.zero)) sli_41 rfl (SlT.at (hT 121 rfl rfl) (hsx17_28.ext' hR)) (hT 122 rfl rfl) (by omega) (getD_get (by rw [List.length_map, List.length_set]; omega)) (fun v h => ⟨Ext.refl _, h⟩)
 exact Ask.plainD rfl rfl fun aq wq hNq hO hR hT => does_loadP (cs := [w32 ((((((fill [] items).1.take (1 + fr.toNat % (fill [] items).1.length)).set (pl.toNat % (1 + fr.toNat % (fill [] items).1.length)) (y ++ ([33] : List UInt8))).map of).getD (pl.toNat % (1 + fr.toNat % (fill [] items).1.length)) Dg.zero)).a, w32 ((((((fill [] items).1.take (1 + fr.toNat % (fill [] items).1.length)).set (pl.toNat % (1 + fr.toNat % (fill [] items).1.length)) (y ++ ([33] : List UInt8))).map of).getD (pl.toNat % (1 + fr.toNat % (fill [] items).1.length)) Dg.zero)).b, w32 ((((((fill [] items).1.take (1 + fr.toNat % (fill [] items).1.length)).set (pl.toNat % (1 + fr.toNat % (fill [] items).1.length)) (y ++ ([33] : List UInt8))).map of).getD (pl.toNat % (1 + fr.toNat % (fill [] items).1.length)) Dg.zero)).c, w32 ((((((fill [] items).1.take (1 + fr.toNat % (fill [] items).1.length)).set (pl.toNat % (1 + fr.toNat % (fill [] items).1.length)) (y ++ ([33] : List UInt8))).map of).getD (pl.toNat % (1 + fr.toNat % (fill [] items).1.length)) Dg.zero)).d]) (hT 123 rfl rfl) row_27 rfl ⟨Ext.refl _, rfl⟩
 exact Ask.plainD rfl rfl fun aq wq hNq hO hR hT => does_eqT (a := ((((fill [] items).1.take (1 + fr.toNat % (fill [] items).1.length)).map of).getD (pl.toNat % (1 + fr.toNat % (fill [] items).1.length)) Dg.zero)) (b := (((((fill [] items).1.take (1 + fr.toNat % (fill [] items).1.length)).set (pl.toNat % (1 + fr.toNat % (fill [] items).1.length)) (y ++ ([33] : List UInt8))).map of).getD (pl.toNat % (1 + fr.toNat % (fill [] items).1.length)) Dg.zero)) eq_27 (hT 120 rfl rfl) (hT 124 rfl rfl) ⟨Ext.refl _, rfl⟩
 intro a30 wd30 hN_30 hD_30 hO hR hA hU
 obtain ⟨_, _, _, _, _, _, _, _, t125, _⟩ := hA
 have hE_30 := hE_28.trans hR
 have s7_30 := (hO 7 rfl).trans s7_29
 have s18_30 := (hO 18 rfl).trans s18_29
 have s21_30 := (hO 21 rfl).trans s21_29
 have hbb7_30 := hbb7_28.ext' hR
 have hbb10_30 := hbb10_28.ext' hR
 have hbb11_30 := hbb11_28.ext' hR
 have hbb18_30 := hbb18_28.ext' hR
 have hbb19_30 := hbb19_28.ext' hR
 have hbb20_30 := hbb20_28.ext' hR
 have hsx1_30 := hsx1_28.ext' hR
 have hsx33_0_4_30 := hsx33_0_4_28.ext' hR
 have hsx90_30 := hsx90_28.ext' hR
 have hsx16_30 := hsx16_28.ext' hR
 have hsx17_30 := hsx17_28.ext' hR
 have hox90_30 := hox90_28.ext' hR
 have hox16_30 := hox16_28.ext' hR
 have hox17_30 := hox17_28.ext' hR
 have s125_30 : get a30 125 = Value.bool (decide (((((fill [] items).1.take (1 + fr.toNat % (fill [] items).1.length)).map of).getD (pl.toNat % (1 + fr.toNat % (fill [] items).1.length)) Dg.zero) = (((((fill [] items).1.take (1 + fr.toNat % (fill [] items).1.length)).set (pl.toNat % (1 + fr.toNat % (fill [] items).1.length)) (y ++ ([33] : List UInt8))).map of).getD (pl.toNat % (1 + fr.toNat % (fill [] items).1.length)) Dg.zero))) := t125
 clear hE_28 hN_29 hD_29 s7_29 s14_29 s16_29 s17_29 s18_29 s21_29 hbb7_28 hbb10_28 hbb11_28 hbb18_28 hbb19_28 hbb20_28 hsx1_28 hsx33_0_4_28 hsx90_28 hsx16_28 hsx17_28 hox90_28 hox16_28 hox17_28
 refine tail_nil ?_
 refine wp_if (B := decide (((((fill [] items).1.take (1 + fr.toNat % (fill [] items).1.length)).map of).getD (pl.toNat % (1 + fr.toNat % (fill [] items).1.length)) Dg.zero) = (((((fill [] items).1.take (1 + fr.toNat % (fill [] items).1.length)).set (pl.toNat % (1 + fr.toNat % (fill [] items).1.length)) (y ++ ([33] : List UInt8))).map of).getD (pl.toNat % (1 + fr.toNat % (fill [] items).1.length)) Dg.zero))) s125_30 (fun hc3 => ?_) (fun hc3 => ?_)
 have hc3 := of_decide_eq_true hc3
 refine wp_seq ?_
 refine region_lex [] [(6, Pr.ex (Value.bool (true)))] 1 hN_30 hD_30 (by kernel_rfl) (by kernel_rfl) ?_ ?_
 refine Asks.cons ?_ (Asks.zero _)
 exact Ask.plain rfl rfl fun aq wq hNq hO hR hT => does_assign (V := Value.bool (true)) rfl ⟨Ext.refl _, rfl⟩
 intro a31 wd31 hN_31 hD_31 hO hR hA hU
 obtain ⟨t6, _⟩ := hA
 have hE_31 := hE_30.trans hR
 have hbb7_31 := hbb7_30.ext' hR
 have hbb10_31 := hbb10_30.ext' hR
 have hbb11_31 := hbb11_30.ext' hR
 have hbb18_31 := hbb18_30.ext' hR
 have hbb19_31 := hbb19_30.ext' hR
 have hbb20_31 := hbb20_30.ext' hR
 have hsx1_31 := hsx1_30.ext' hR
 have hsx33_0_4_31 := hsx33_0_4_30.ext' hR
 have hsx90_31 := hsx90_30.ext' hR
 have hsx16_31 := hsx16_30.ext' hR
 have hsx17_31 := hsx17_30.ext' hR
 have hox90_31 := hox90_30.ext' hR
 have hox16_31 := hox16_30.ext' hR
 have hox17_31 := hox17_30.ext' hR
 have s6_31 : get a31 6 = Value.bool (true) := t6
 clear hE_30 hN_30 hD_30 s7_30 s18_30 s21_30 s125_30 hbb7_30 hbb10_30 hbb11_30 hbb18_30 hbb19_30 hbb20_30 hsx1_30 hsx33_0_4_30 hsx90_30 hsx16_30 hsx17_30 hox90_30 hox16_30 hox17_30
 refine tail_nil ?_
 refine wp_ret ?_
 refine res_one (V := Value.bool (true)) rfl hD_31 s6_31 ?_
 exact ⟨rfl, hE_31⟩
 have hc3 := of_decide_eq_false hc3
 refine wp_skip ?_
 refine wp_seq ?_
 refine region_lex [] [(126, Pr.ex (Value.agg #[x33_0_4])), (127, Pr.ex (Value.agg #[i64 ((1 + (((fr).toNat) % (((fill [] items).1).length)) : Nat) : Int), w32 (root ((((fill [] items).1.take (1 + fr.toNat % (fill [] items).1.length)).set ((((pl).toNat) % (1 + (((fr).toNat) % (((fill [] items).1).length))))) (y ++ (([33] : List UInt8)))).map of)).a, w32 (root ((((fill [] items).1.take (1 + fr.toNat % (fill [] items).1.length)).set ((((pl).toNat) % (1 + (((fr).toNat) % (((fill [] items).1).length))))) (y ++ (([33] : List UInt8)))).map of)).b, w32 (root ((((fill [] items).1.take (1 + fr.toNat % (fill [] items).1.length)).set ((((pl).toNat) % (1 + (((fr).toNat) % (((fill [] items).1).length))))) (y ++ (([33] : List UInt8)))).map of)).c, w32 (root ((((fill [] items).1.take (1 + fr.toNat % (fill [] items).1.length)).set ((((pl).toNat) % (1 + (((fr).toNat) % (((fill [] items).1).length))))) (y ++ (([33] : List UInt8)))).map of)).d])), (128, Pr.ex (i64 ((lost ((fill [] items).1) (⟨((1 + (((fr).toNat) % (((fill [] items).1).length)) : Nat) : Int), root ((((fill [] items).1.take (1 + fr.toNat % (fill [] items).1.length)).set ((((pl).toNat) % (1 + (((fr).toNat) % (((fill [] items).1).length))))) (y ++ (([33] : List UInt8)))).map of)⟩ : Head) : Nat) : Int))), (129, Pr.ex (Value.bool (decide (((lost ((fill [] items).1) (⟨((1 + (((fr).toNat) % (((fill [] items).1).length)) : Nat) : Int), root ((((fill [] items).1.take (1 + fr.toNat % (fill [] items).1.length)).set ((((pl).toNat) % (1 + (((fr).toNat) % (((fill [] items).1).length))))) (y ++ (([33] : List UInt8)))).map of)⟩ : Head) : Nat) : Int) = ((8 : Nat) : Int))))), (130, Pr.ex (Value.bool ((clash ((((fill [] items).1).take (1 + (((fr).toNat) % (((fill [] items).1).length)))).map of) ((((fill [] items).1.take (1 + fr.toNat % (fill [] items).1.length)).set ((((pl).toNat) % (1 + (((fr).toNat) % (((fill [] items).1).length))))) (y ++ (([33] : List UInt8)))).map of)).2.2))), (131, Pr.ex (Value.bool (!((decide (((lost ((fill [] items).1) (⟨((1 + (((fr).toNat) % (((fill [] items).1).length)) : Nat) : Int), root ((((fill [] items).1.take (1 + fr.toNat % (fill [] items).1.length)).set ((((pl).toNat) % (1 + (((fr).toNat) % (((fill [] items).1).length))))) (y ++ (([33] : List UInt8)))).map of)⟩ : Head) : Nat) : Int) = ((8 : Nat) : Int))) == ((clash ((((fill [] items).1).take (1 + (((fr).toNat) % (((fill [] items).1).length)))).map of) ((((fill [] items).1.take (1 + fr.toNat % (fill [] items).1.length)).set ((((pl).toNat) % (1 + (((fr).toNat) % (((fill [] items).1).length))))) (y ++ (([33] : List UInt8)))).map of)).2.2))))), (6, Pr.ex (Value.bool (!((decide (((lost ((fill [] items).1) (⟨((1 + (((fr).toNat) % (((fill [] items).1).length)) : Nat) : Int), root ((((fill [] items).1.take (1 + fr.toNat % (fill [] items).1.length)).set ((((pl).toNat) % (1 + (((fr).toNat) % (((fill [] items).1).length))))) (y ++ (([33] : List UInt8)))).map of)⟩ : Head) : Nat) : Int) = ((8 : Nat) : Int))) == ((clash ((((fill [] items).1).take (1 + (((fr).toNat) % (((fill [] items).1).length)))).map of) ((((fill [] items).1.take (1 + fr.toNat % (fill [] items).1.length)).set ((((pl).toNat) % (1 + (((fr).toNat) % (((fill [] items).1).length))))) (y ++ (([33] : List UInt8)))).map of)).2.2)))))] 7 hN_30 hD_30 (by kernel_rfl) (by kernel_rfl) ?_ ?_
 refine Asks.cons ?_ (Asks.cons ?_ (Asks.cons ?_ (Asks.cons ?_ (Asks.cons ?_ (Asks.cons ?_ (Asks.cons ?_ (Asks.zero _)))))))
 exact Ask.plain rfl rfl fun aq wq hNq hO hR hT => does_loadD (o := 0) (n := 1) (mid := [x33_0_4]) ((hO 7 rfl).trans s7_30) (hbb7_30.ext' hR) rfl rfl (Nat.le_of_ble_eq_true rfl) row_24 rfl ⟨Ext.refl _, rfl⟩
 exact Ask.plain rfl rfl fun aq wq hNq hO hR hT => does_loadD (o := 0) (n := 5) (mid := [i64 ((1 + (((fr).toNat) % (((fill [] items).1).length)) : Nat) : Int), w32 (root ((((fill [] items).1.take (1 + fr.toNat % (fill [] items).1.length)).set ((((pl).toNat) % (1 + (((fr).toNat) % (((fill [] items).1).length))))) (y ++ (([33] : List UInt8)))).map of)).a, w32 (root ((((fill [] items).1.take (1 + fr.toNat % (fill [] items).1.length)).set ((((pl).toNat) % (1 + (((fr).toNat) % (((fill [] items).1).length))))) (y ++ (([33] : List UInt8)))).map of)).b, w32 (root ((((fill [] items).1.take (1 + fr.toNat % (fill [] items).1.length)).set ((((pl).toNat) % (1 + (((fr).toNat) % (((fill [] items).1).length))))) (y ++ (([33] : List UInt8)))).map of)).c, w32 (root ((((fill [] items).1.take (1 + fr.toNat % (fill [] items).1.length)).set ((((pl).toNat) % (1 + (((fr).toNat) % (((fill [] items).1).length))))) (y ++ (([33] : List UInt8)))).map of)).d]) ((hO 18 rfl).trans s18_30) (hbb18_30.ext' hR) rfl rfl (Nat.le_of_ble_eq_true rfl) row_29 rfl ⟨Ext.refl _, rfl⟩
 exact Ask.plain rfl rfl fun aq wq hNq hO hR hT => does_ret (vs := #[Value.agg #[x33_0_4], Value.agg #[i64 ((1 + (((fr).toNat) % (((fill [] items).1).length)) : Nat) : Int), w32 (root ((((fill [] items).1.take (1 + fr.toNat % (fill [] items).1.length)).set ((((pl).toNat) % (1 + (((fr).toNat) % (((fill [] items).1).length))))) (y ++ (([33] : List UInt8)))).map of)).a, w32 (root ((((fill [] items).1.take (1 + fr.toNat % (fill [] items).1.length)).set ((((pl).toNat) % (1 + (((fr).toNat) % (((fill [] items).1).length))))) (y ++ (([33] : List UInt8)))).map of)).b, w32 (root ((((fill [] items).1.take (1 + fr.toNat % (fill [] items).1.length)).set ((((pl).toNat) % (1 + (((fr).toNat) % (((fill [] items).1).length))))) (y ++ (([33] : List UInt8)))).map of)).c, w32 (root ((((fill [] items).1.take (1 + fr.toNat % (fill [] items).1.length)).set ((((pl).toNat) % (1 + (((fr).toNat) % (((fill [] items).1).length))))) (y ++ (([33] : List UInt8)))).map of)).d]]) call_14 (args2 (hT 126 rfl rfl) (hT 127 rfl rfl)) rfl ((lost_ ((fill [] items).1) (x33_0_4) (⟨((1 + (((fr).toNat) % (((fill [] items).1).length)) : Nat) : Int), root ((((fill [] items).1.take (1 + fr.toNat % (fill [] items).1.length)).set ((((pl).toNat) % (1 + (((fr).toNat) % (((fill [] items).1).length))))) (y ++ (([33] : List UInt8)))).map of)⟩ : Head) wq (hL.ext (hE_30.trans hR)) ((hsx33_0_4_30.ext' hR).wide (Nat.zero_le _) (.inl rfl)) hs1 hn1).mono fun v w2 h => ⟨h.2, h.1⟩)
 exact Ask.plain rfl rfl fun aq wq hNq hO hR hT => does_eql (a := ((lost ((fill [] items).1) (⟨((1 + (((fr).toNat) % (((fill [] items).1).length)) : Nat) : Int), root ((((fill [] items).1.take (1 + fr.toNat % (fill [] items).1.length)).set ((((pl).toNat) % (1 + (((fr).toNat) % (((fill [] items).1).length))))) (y ++ (([33] : List UInt8)))).map of)⟩ : Head) : Nat) : Int)) (b := ((8 : Nat) : Int)) (hT 128 rfl rfl) rfl ⟨Ext.refl _, rfl⟩
 exact Ask.plain rfl rfl fun aq wq hNq hO hR hT => does_move (V := Value.bool ((clash ((((fill [] items).1).take (1 + (((fr).toNat) % (((fill [] items).1).length)))).map of) ((((fill [] items).1.take (1 + fr.toNat % (fill [] items).1.length)).set ((((pl).toNat) % (1 + (((fr).toNat) % (((fill [] items).1).length))))) (y ++ (([33] : List UInt8)))).map of)).2.2)) ((hO 21 rfl).trans s21_30) ⟨Ext.refl _, rfl⟩
 exact Ask.plain rfl rfl fun aq wq hNq hO hR hT => does_neB Tryd.underlying4 (hT 129 rfl rfl) (hT 130 rfl rfl) ⟨Ext.refl _, rfl⟩
 exact Ask.plain rfl rfl fun aq wq hNq hO hR hT => does_assign (V := Value.bool (!((decide (((lost ((fill [] items).1) (⟨((1 + (((fr).toNat) % (((fill [] items).1).length)) : Nat) : Int), root ((((fill [] items).1.take (1 + fr.toNat % (fill [] items).1.length)).set ((((pl).toNat) % (1 + (((fr).toNat) % (((fill [] items).1).length))))) (y ++ (([33] : List UInt8)))).map of)⟩ : Head) : Nat) : Int) = ((8 : Nat) : Int))) == ((clash ((((fill [] items).1).take (1 + (((fr).toNat) % (((fill [] items).1).length)))).map of) ((((fill [] items).1.take (1 + fr.toNat % (fill [] items).1.length)).set ((((pl).toNat) % (1 + (((fr).toNat) % (((fill [] items).1).length))))) (y ++ (([33] : List UInt8)))).map of)).2.2)))) (hT 131 rfl rfl) ⟨Ext.refl _, rfl⟩
 intro a32 wd32 hN_32 hD_32 hO hR hA hU
 obtain ⟨_, _, _, _, _, _, t6, _⟩ := hA
 have hE_32 := hE_30.trans hR
 have hbb7_32 := hbb7_30.ext' hR
 have hbb10_32 := hbb10_30.ext' hR
 have hbb11_32 := hbb11_30.ext' hR
 have hbb18_32 := hbb18_30.ext' hR
 have hbb19_32 := hbb19_30.ext' hR
 have hbb20_32 := hbb20_30.ext' hR
 have hsx1_32 := hsx1_30.ext' hR
 have hsx33_0_4_32 := hsx33_0_4_30.ext' hR
 have hsx90_32 := hsx90_30.ext' hR
 have hsx16_32 := hsx16_30.ext' hR
 have hsx17_32 := hsx17_30.ext' hR
 have hox90_32 := hox90_30.ext' hR
 have hox16_32 := hox16_30.ext' hR
 have hox17_32 := hox17_30.ext' hR
 have s6_32 : get a32 6 = Value.bool (!((decide (((lost ((fill [] items).1) (⟨((1 + (((fr).toNat) % (((fill [] items).1).length)) : Nat) : Int), root ((((fill [] items).1.take (1 + fr.toNat % (fill [] items).1.length)).set ((((pl).toNat) % (1 + (((fr).toNat) % (((fill [] items).1).length))))) (y ++ (([33] : List UInt8)))).map of)⟩ : Head) : Nat) : Int) = ((8 : Nat) : Int))) == ((clash ((((fill [] items).1).take (1 + (((fr).toNat) % (((fill [] items).1).length)))).map of) ((((fill [] items).1.take (1 + fr.toNat % (fill [] items).1.length)).set ((((pl).toNat) % (1 + (((fr).toNat) % (((fill [] items).1).length))))) (y ++ (([33] : List UInt8)))).map of)).2.2))) := t6
 clear hE_30 hN_30 hD_30 s7_30 s18_30 s21_30 s125_30 hbb7_30 hbb10_30 hbb11_30 hbb18_30 hbb19_30 hbb20_30 hsx1_30 hsx33_0_4_30 hsx90_30 hsx16_30 hsx17_30 hox90_30 hox16_30 hox17_30
 refine tail_nil ?_
 refine wp_ret ?_
 refine res_one (V := Value.bool (!((decide (((lost ((fill [] items).1) (⟨((1 + (((fr).toNat) % (((fill [] items).1).length)) : Nat) : Int), root ((((fill [] items).1.take (1 + fr.toNat % (fill [] items).1.length)).set ((((pl).toNat) % (1 + (((fr).toNat) % (((fill [] items).1).length))))) (y ++ (([33] : List UInt8)))).map of)⟩ : Head) : Nat) : Int) = ((8 : Nat) : Int))) == ((clash ((((fill [] items).1).take (1 + (((fr).toNat) % (((fill [] items).1).length)))).map of) ((((fill [] items).1.take (1 + fr.toNat % (fill [] items).1.length)).set ((((pl).toNat) % (1 + (((fr).toNat) % (((fill [] items).1).length))))) (y ++ (([33] : List UInt8)))).map of)).2.2)))) rfl hD_32 s6_32 ?_
 exact ⟨congrArg Value.bool (systemOn_law (by omega) (by omega) hc3), hE_32⟩

end Go.Proofs.YtijfjpbahepegaaDoor
