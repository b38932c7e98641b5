/- The walks of functions of the program: printed. -/
import Derived.Test.YtaeohnkfmachfabDoorG3
import Derived.Test.YtaeohnkfmachfabDoorR0
import Derived.Test.YtaeohnkfmachfabDoorG4
import Derived.Test.YtaeohnkfmachfabDoorF0
set_option maxRecDepth 100000
namespace Go.Proofs.YtaeohnkfmachfabDoor
open Go Go.RowKit Sk Sd
theorem wordsR (s : List UInt8) (w0 : World) (h4 : s.length % 4 = 0) (hn : s.length ≤ 4194304) :
    Gives Tryd.prog 57 #[str (s)] w0 (Pr.t2 (Pr.own' W32 w0.heap.size 22 (words s)) (Pr.ex (i64 ((0 : Nat) : Int)))) := by
 refine enter (N := 40) Tryd.func57 rfl rfl ?_
 intro a0 hN_0 hD_0 hA
 have s0_0 : get a0 0 = str (s) := hA 0 _ rfl
 clear hA
 have hE_0 : Ext w0 w0 := Ext.refl w0
 refine wp_seq ?_
 refine region_lex [] [(2, Pr.ex (Value.slice none 0 0)), (3, Pr.ex (i64 ((0 : Nat) : Int)))] 2 hN_0 hD_0 (by kernel_rfl) (by kernel_rfl) ?_ ?_
 refine Asks.cons ?_ (Asks.cons ?_ (Asks.zero _))
 exact Ask.plain rfl rfl fun aq wq hNq hO hR hT => does_assign (V := Value.slice none 0 0) rfl ⟨Ext.refl _, rfl⟩
 exact Ask.plain rfl rfl fun aq wq hNq hO hR hT => does_assign (V := i64 ((0 : Nat) : Int)) rfl ⟨Ext.refl _, rfl⟩
 intro a1 wd1 hN_1 hD_1 hO hR hA hU
 obtain ⟨_, _, _⟩ := hA
 have hE_1 := hE_0.trans hR
 have s0_1 := (hO 0 rfl).trans s0_0
 clear hE_0 hN_0 hD_0 s0_0
 refine tail_nil ?_
 refine wp_seq ?_
 refine wp_seq ?_
 refine region_lex [] [(8, Pr.ex (str (s))), (9, Pr.ex (i64 ((s.length : Nat) : Int))), (10, Pr.ex (i64 ((s.length % 4 : Nat) : Int))), (11, Pr.ex (Value.bool (!decide (((s.length % 4 : Nat) : Int) = ((0 : Nat) : Int)))))] 4 hN_1 hD_1 (by kernel_rfl) (by kernel_rfl) ?_ ?_
 refine Asks.cons ?_ (Asks.cons ?_ (Asks.cons ?_ (Asks.cons ?_ (Asks.zero _))))
 exact Ask.plain rfl rfl fun aq wq hNq hO hR hT => does_move (V := str (s)) ((hO 0 rfl).trans s0_1) ⟨Ext.refl _, rfl⟩
 exact Ask.plain rfl rfl fun aq wq hNq hO hR hT => does_lenStr (l := s) Tryd.underlying9 (hT 8 rfl rfl) ⟨Ext.refl _, rfl⟩
 exact Ask.plain rfl rfl fun aq wq hNq hO hR hT => does_rem (k := .i64) (a := ((s.length : Nat) : Int)) (b := ((4 : Nat) : Int)) (r := ((s.length % 4 : Nat) : Int)) (hT 9 rfl rfl) rfl (by omega) (by omega) (by omega) ⟨Ext.refl _, rfl⟩
 exact Ask.plain rfl rfl fun aq wq hNq hO hR hT => does_neq (a := ((s.length % 4 : Nat) : Int)) (b := ((0 : Nat) : Int)) (hT 10 rfl rfl) rfl ⟨Ext.refl _, rfl⟩
 intro a2 wd2 hN_2 hD_2 hO hR hA hU
 obtain ⟨_, _, _, t11, _⟩ := hA
 have hE_2 := hE_1.trans hR
 have s0_2 := (hO 0 rfl).trans s0_1
 have s11_2 : get a2 11 = Value.bool (!decide (((s.length % 4 : Nat) : Int) = ((0 : Nat) : Int))) := t11
 clear hE_1 hN_1 hD_1 s0_1
 refine tail_nil ?_
 refine wp_if (B := !decide (((s.length % 4 : Nat) : Int) = ((0 : Nat) : Int))) s11_2 (fun hc0 => ?_) (fun hc0 => ?_)
 have hc0 := of_decide_eq_false (bn hc0)
 omega
 have hc0 := of_decide_eq_true (bn' hc0)
 refine wp_skip ?_
 refine wp_seq ?_
 refine region_lex [] [(12, Pr.ex (str (s))), (13, Pr.ex (i64 ((s.length : Nat) : Int))), (14, Pr.ex (i64 ((s.length / 4 : Nat) : Int))), (15, Pr.own' W32 wd2.heap.size 22 ([])), (4, Pr.own' W32 wd2.heap.size 22 ([]))] 5 hN_2 hD_2 (by kernel_rfl) (by kernel_rfl) ?_ ?_
 refine Asks.cons ?_ (Asks.cons ?_ (Asks.cons ?_ (Asks.cons ?_ (Asks.cons ?_ (Asks.zero _)))))
 exact Ask.plain rfl rfl fun aq wq hNq hO hR hT => does_move (V := str (s)) ((hO 0 rfl).trans s0_2) ⟨Ext.refl _, rfl⟩
 exact Ask.plain rfl rfl fun aq wq hNq hO hR hT => does_lenStr (l := s) Tryd.underlying9 (hT 12 rfl rfl) ⟨Ext.refl _, rfl⟩
 exact Ask.plain rfl rfl fun aq wq hNq hO hR hT => does_quo (a := ((s.length : Nat) : Int)) (b := ((4 : Nat) : Int)) (r := ((s.length / 4 : Nat) : Int)) (hT 13 rfl rfl) rfl (by omega) (by omega) (by omega) (by omega) ⟨Ext.refl _, rfl⟩
 exact Ask.plain rfl rfl fun aq wq hNq hO hR hT => does_make0 (T := W32) (c := s.length / 4) app_70 rfl rfl (hT 14 rfl rfl) (by omega) (by unfold maxLen; omega) (fun v w2 he _ ho => ⟨he, OwnT.base ho hR.size'⟩)
 exact Ask.plain rfl rfl fun aq wq hNq hO hR hT => does_assign rfl ⟨Ext.refl _, (hT 15 rfl rfl)⟩
 intro a3 wd3 hN_3 hD_3 hO hR hA hU
 obtain ⟨_, _, _, _, t4, _⟩ := hA
 have hE_3 := hE_2.trans hR
 have s0_3 := (hO 0 rfl).trans s0_2
 obtain ⟨x4, s4_3⟩ : ∃ x, get a3 4 = x := ⟨_, rfl⟩
 replace t4 : OwnT W32 wd2.heap.size 22 ([]) x4 wd3 := by rw [← s4_3]; exact t4
 have hsx4_3 := t4.sl.wide (Nat.zero_le _) (.inl rfl)
 have hox4_3 := OwnT.base t4 hE_2.size'
 clear hE_2 hN_2 hD_2 s0_2 s11_2
 refine tail_nil ?_
 refine wp_seq ?_
 refine wp_seq ?_
 refine region_lex [] [(5, Pr.ex (i64 ((0 : Nat) : Int)))] 1 hN_3 hD_3 (by kernel_rfl) (by kernel_rfl) ?_ ?_
 refine Asks.cons ?_ (Asks.zero _)
 exact Ask.plain rfl rfl fun aq wq hNq hO hR hT => does_assign (V := i64 ((0 : Nat) : Int)) rfl ⟨Ext.refl _, rfl⟩
 intro a4 wd4 hN_4 hD_4 hO hR hA hU
 obtain ⟨t5, _⟩ := hA
 have hE_4 := hE_3.trans hR
 have s0_4 := (hO 0 rfl).trans s0_3
 have s4_4 := (hO 4 rfl).trans s4_3
 have hsx4_4 := hsx4_3.ext' hR
 have hox4_4 := hox4_3.ext' hR
 have s5_4 : get a4 5 = i64 ((0 : Nat) : Int) := t5
 clear hE_3 hN_3 hD_3 s0_3 s4_3 hsx4_3 hox4_3
 refine tail_nil ?_
 refine wp_block ?_
 refine loop_g (fun mz az wz => ∃ i : Nat, ∃ acc : List UInt32, ∃ xo : Value, mz = s.length - i ∧ (az.tmps.size = 40) ∧ (az.defers = []) ∧ (get az 0 = str (s)) ∧ (get az 4 = xo) ∧ (get az 5 = i64 ((i : Nat) : Int)) ∧ (Ext w0 wz) ∧ (OwnT W32 w0.heap.size 22 (acc) xo wz) ∧ (acc ++ words (s.drop i) = words s) ∧ (i % 4 = 0) ∧ (i ≤ s.length) ∧ (acc.length ≤ i)) ?_ ?_
 exact ⟨_, 0, [], x4, rfl, hN_4, hD_4, s0_4, s4_4, s5_4, hE_4, hox4_4, rfl, rfl, Nat.zero_le _, Nat.zero_le _⟩
 rintro mz a5 wd5 ⟨i, acc, xo, rfl, hN_5, hD_5, s0_5, s4_5, s5_5, hE_5, hoxo_5, hm, hi4, hi, hal⟩
 have hsxo_5 := hoxo_5.sl.wide (Nat.zero_le _) (.inl rfl)
 refine wp_seq ?_
 refine wp_seq ?_
 refine region_lex [] [(16, Pr.ex (i64 ((i : Nat) : Int))), (17, Pr.ex (str (s))), (18, Pr.ex (i64 ((s.length : Nat) : Int))), (19, Pr.ex (Value.bool (decide (((i : Nat) : Int) < ((s.length : Nat) : Int)))))] 4 hN_5 hD_5 (by kernel_rfl) (by kernel_rfl) ?_ ?_
 refine Asks.cons ?_ (Asks.cons ?_ (Asks.cons ?_ (Asks.cons ?_ (Asks.zero _))))
 exact Ask.plain rfl rfl fun aq wq hNq hO hR hT => does_move (V := i64 ((i : Nat) : Int)) ((hO 5 rfl).trans s5_5) ⟨Ext.refl _, rfl⟩
 exact Ask.plain rfl rfl fun aq wq hNq hO hR hT => does_move (V := str (s)) ((hO 0 rfl).trans s0_5) ⟨Ext.refl _, rfl⟩
 exact Ask.plain rfl rfl fun aq wq hNq hO hR hT => does_lenStr (l := s) Tryd.underlying9 (hT 17 rfl rfl) ⟨Ext.refl _, rfl⟩
 exact Ask.plain rfl rfl fun aq wq hNq hO hR hT => does_lss (a := ((i : Nat) : Int)) (b := ((s.length : Nat) : Int)) (hT 16 rfl rfl) (hT 18 rfl rfl) ⟨Ext.refl _, rfl⟩
 intro a6 wd6 hN_6 hD_6 hO hR hA hU
 obtain ⟨_, _, _, t19, _⟩ := hA
 have hE_6 := hE_5.trans hR
 have s0_6 := (hO 0 rfl).trans s0_5
 have s4_6 := (hO 4 rfl).trans s4_5
 have s5_6 := (hO 5 rfl).trans s5_5
 have hsxo_6 := hsxo_5.ext' hR
 have hoxo_6 := hoxo_5.ext' hR
 have s19_6 : get a6 19 = Value.bool (decide (((i : Nat) : Int) < ((s.length : Nat) : Int))) := t19
 clear hE_5 hN_5 hD_5 s0_5 s4_5 s5_5 hsxo_5 hoxo_5
 refine tail_nil ?_
 refine wp_if (B := decide (((i : Nat) : Int) < ((s.length : Nat) : Int))) s19_6 (fun hc1 => ?_) (fun hc1 => ?_)
 have hc1 := of_decide_eq_true hc1
 obtain ⟨a, b, c, d, m', hm4⟩ := four_of (l := s.drop i) (by rw [List.length_drop]; omega)
 refine wp_skip ?_
 refine wp_seq ?_
 refine wp_block ?_
 refine wp_seq ?_
 refine region_lex [] [(6, Pr.ex (w32 (0)))] 1 hN_6 hD_6 (by kernel_rfl) (by kernel_rfl) ?_ ?_
 refine Asks.cons ?_ (Asks.zero _)
 exact Ask.plain rfl rfl fun aq wq hNq hO hR hT => does_assign (V := w32 (0)) rfl ⟨Ext.refl _, rfl⟩
 intro a7 wd7 hN_7 hD_7 hO hR hA hU
 obtain ⟨t6, _⟩ := hA
 have hE_7 := hE_6.trans hR
 have s0_7 := (hO 0 rfl).trans s0_6
 have s4_7 := (hO 4 rfl).trans s4_6
 have s5_7 := (hO 5 rfl).trans s5_6
 have hsxo_7 := hsxo_6.ext' hR
 have hoxo_7 := hoxo_6.ext' hR
 have s6_7 : get a7 6 = w32 (0) := t6
 clear hE_6 hN_6 hD_6 s0_6 s4_6 s5_6 s19_6 hsxo_6 hoxo_6
 refine tail_nil ?_
 refine wp_seq ?_
 refine wp_seq ?_
 refine region_lex [] [(7, Pr.ex (i64 ((3 : Nat) : Int)))] 1 hN_7 hD_7 (by kernel_rfl) (by kernel_rfl) ?_ ?_
 refine Asks.cons ?_ (Asks.zero _)
 exact Ask.plain rfl rfl fun aq wq hNq hO hR hT => does_assign (V := i64 ((3 : Nat) : Int)) rfl ⟨Ext.refl _, rfl⟩
 intro a8 wd8 hN_8 hD_8 hO hR hA hU
 obtain ⟨t7, _⟩ := hA
 have hE_8 := hE_7.trans hR
 have s0_8 := (hO 0 rfl).trans s0_7
 have s4_8 := (hO 4 rfl).trans s4_7
 have s5_8 := (hO 5 rfl).trans s5_7
 have s6_8 := (hO 6 rfl).trans s6_7
 have hsxo_8 := hsxo_7.ext' hR
 have hoxo_8 := hoxo_7.ext' hR
 have s7_8 : get a8 7 = i64 ((3 : Nat) : Int) := t7
 clear hE_7 hN_7 hD_7 s0_7 s4_7 s5_7 s6_7 hsxo_7 hoxo_7
 refine tail_nil ?_
 refine wp_block ?_
 refine loop_rounds 5 ?_
 refine round_step ?_
 refine wp_seq ?_
 refine wp_seq ?_
 refine region_lex [] [(22, Pr.ex (i64 ((3 : Nat) : Int))), (23, Pr.ex (Value.bool (true)))] 2 hN_8 hD_8 (by kernel_rfl) (by kernel_rfl) ?_ ?_
 refine Asks.cons ?_ (Asks.cons ?_ (Asks.zero _))
 exact Ask.plain rfl rfl fun aq wq hNq hO hR hT => does_move (V := i64 ((3 : Nat) : Int)) ((hO 7 rfl).trans s7_8) ⟨Ext.refl _, rfl⟩
 exact Ask.plain rfl rfl fun aq wq hNq hO hR hT => does_geq (a := ((3 : Nat) : Int)) (b := ((0 : Nat) : Int)) (hT 22 rfl rfl) rfl ⟨Ext.refl _, rfl⟩
 intro a9 wd9 hN_9 hD_9 hO hR hA hU
 obtain ⟨_, t23, _⟩ := hA
 have hE_9 := hE_8.trans hR
 have s0_9 := (hO 0 rfl).trans s0_8
 have s4_9 := (hO 4 rfl).trans s4_8
 have s5_9 := (hO 5 rfl).trans s5_8
 have s6_9 := (hO 6 rfl).trans s6_8
 have s7_9 := (hO 7 rfl).trans s7_8
 have hsxo_9 := hsxo_8.ext' hR
 have hoxo_9 := hoxo_8.ext' hR
 have s23_9 : get a9 23 = Value.bool (true) := t23
 clear hE_8 hN_8 hD_8 s0_8 s4_8 s5_8 s6_8 s7_8 hsxo_8 hoxo_8
 refine tail_nil ?_
 refine wp_ifT s23_9 ?_
 refine wp_skip ?_
 refine wp_seq ?_
 refine wp_block ?_
 refine region_lex [] [(26, Pr.ex (w32 (0))), (27, Pr.ex (w32 ((0 : UInt32) * (256 : UInt32)))), (28, Pr.ex (str (s))), (29, Pr.ex (i64 ((i : Nat) : Int))), (30, Pr.ex (i64 ((3 : Nat) : Int))), (31, Pr.ex (i64 ((i + 3 : Nat) : Int))), (32, Pr.ex (w8 (d))), (33, Pr.ex (w32 (UInt32.ofNat (d).toNat))), (34, Pr.ex (w32 (((0 : UInt32) * (256 : UInt32) : UInt32) + (UInt32.ofNat (d).toNat : UInt32))))] 9 hN_9 hD_9 (by kernel_rfl) (by kernel_rfl) ?_ ?_
 refine Asks.cons ?_ (Asks.cons ?_ (Asks.cons ?_ (Asks.cons ?_ (Asks.cons ?_ (Asks.cons ?_ (Asks.cons ?_ (Asks.cons ?_ (Asks.cons ?_ (Asks.zero _)))))))))
 exact Ask.plain rfl rfl fun aq wq hNq hO hR hT => does_move (V := w32 (0)) ((hO 6 rfl).trans s6_9) ⟨Ext.refl _, rfl⟩
 exact Ask.plain rfl rfl fun aq wq hNq hO hR hT => does_mul32 (a := (0 : UInt32)) (b := (256 : UInt32)) (hT 26 rfl rfl) rfl ⟨Ext.refl _, rfl⟩
 exact Ask.plain rfl rfl fun aq wq hNq hO hR hT => does_move (V := str (s)) ((hO 0 rfl).trans s0_9) ⟨Ext.refl _, rfl⟩
 exact Ask.plain rfl rfl fun aq wq hNq hO hR hT => does_move (V := i64 ((i : Nat) : Int)) ((hO 5 rfl).trans s5_9) ⟨Ext.refl _, rfl⟩
 exact Ask.plain rfl rfl fun aq wq hNq hO hR hT => does_move (V := i64 ((3 : Nat) : Int)) ((hO 7 rfl).trans s7_9) ⟨Ext.refl _, rfl⟩
 exact Ask.plain rfl rfl fun aq wq hNq hO hR hT => does_add (a := ((i : Nat) : Int)) (b := ((3 : Nat) : Int)) (r := ((i + 3 : Nat) : Int)) (hT 29 rfl rfl) (hT 30 rfl rfl) (by omega) (by omega) (by omega) ⟨Ext.refl _, rfl⟩
 exact Ask.plain rfl rfl fun aq wq hNq hO hR hT => does_indexStr (l := s) (i := ((i + 3 : Nat) : Int)) (c := d) Tryd.underlying9 (hT 28 rfl rfl) (hT 31 rfl rfl) (by omega) (by have h := drop_get hm4 3; exact h) ⟨Ext.refl _, rfl⟩
 exact Ask.plain rfl rfl fun aq wq hNq hO hR hT => does_conv ⟨_, Tryd.underlying5⟩ Tryd.underlying22 (hT 32 rfl rfl) (wrap_u32 _) ⟨Ext.refl _, rfl⟩
 exact Ask.plain rfl rfl fun aq wq hNq hO hR hT => does_add32 (a := ((0 : UInt32) * (256 : UInt32) : UInt32)) (b := (UInt32.ofNat (d).toNat : UInt32)) (hT 27 rfl rfl) (hT 33 rfl rfl) ⟨Ext.refl _, rfl⟩
 intro a10 wd10 hN_10 hD_10 hO hR hA hU
 obtain ⟨_, _, _, _, _, _, _, _, t34, _⟩ := hA
 have hE_10 := hE_9.trans hR
 have s0_10 := (hO 0 rfl).trans s0_9
 have s4_10 := (hO 4 rfl).trans s4_9
 have s5_10 := (hO 5 rfl).trans s5_9
 have s6_10 := (hO 6 rfl).trans s6_9
 have s7_10 := (hO 7 rfl).trans s7_9
 have hsxo_10 := hsxo_9.ext' hR
 have hoxo_10 := hoxo_9.ext' hR
 have s34_10 : get a10 34 = w32 (((0 : UInt32) * (256 : UInt32) : UInt32) + (UInt32.ofNat (d).toNat : UInt32)) := t34
 clear hE_9 hN_9 hD_9 s0_9 s4_9 s5_9 s6_9 s7_9 s23_9 hsxo_9 hoxo_9
 refine tail_put rfl rfl hN_10 hD_10 (by decide) (does_assign (V := w32 (((0 : UInt32) * (256 : UInt32) : UInt32) + (UInt32.ofNat (d).toNat : UInt32))) s34_10 (fun a11 hN_11 hD_11 hv hO => ?_))
 have s6_11 := hv
 have s0_11 := (hO 0 rfl).trans s0_10
 have s4_11 := (hO 4 rfl).trans s4_10
 have s5_11 := (hO 5 rfl).trans s5_10
 have s7_11 := (hO 7 rfl).trans s7_10
 clear hO hv hN_10 hD_10 s0_10 s4_10 s5_10 s7_10 s34_10 s6_10
 refine tail_nil ?_
 refine region_lex [] [(24, Pr.ex (i64 ((3 : Nat) : Int))), (25, Pr.ex (i64 ((2 : Nat) : Int)))] 2 hN_11 hD_11 (by kernel_rfl) (by kernel_rfl) ?_ ?_
 refine Asks.cons ?_ (Asks.cons ?_ (Asks.zero _))
 exact Ask.plain rfl rfl fun aq wq hNq hO hR hT => does_move (V := i64 ((3 : Nat) : Int)) ((hO 7 rfl).trans s7_11) ⟨Ext.refl _, rfl⟩
 exact Ask.plain rfl rfl fun aq wq hNq hO hR hT => does_sub (a := ((3 : Nat) : Int)) (b := ((1 : Nat) : Int)) (r := ((2 : Nat) : Int)) (hT 24 rfl rfl) rfl (by decide) (by decide) (by decide) ⟨Ext.refl _, rfl⟩
 intro a12 wd12 hN_12 hD_12 hO hR hA hU
 obtain ⟨_, t25, _⟩ := hA
 have hE_12 := hE_10.trans hR
 have s0_12 := (hO 0 rfl).trans s0_11
 have s4_12 := (hO 4 rfl).trans s4_11
 have s5_12 := (hO 5 rfl).trans s5_11
 have s6_12 := (hO 6 rfl).trans s6_11
 have s7_12 := (hO 7 rfl).trans s7_11
 have hsxo_12 := hsxo_10.ext' hR
 have hoxo_12 := hoxo_10.ext' hR
 have s25_12 : get a12 25 = i64 ((2 : Nat) : Int) := t25
 clear hE_10 hN_11 hD_11 s0_11 s4_11 s5_11 s6_11 s7_11 hsxo_10 hoxo_10
 refine tail_put rfl rfl hN_12 hD_12 (by decide) (does_assign (V := i64 ((2 : Nat) : Int)) s25_12 (fun a13 hN_13 hD_13 hv hO => ?_))
 have s7_13 := hv
 have s0_13 := (hO 0 rfl).trans s0_12
 have s4_13 := (hO 4 rfl).trans s4_12
 have s5_13 := (hO 5 rfl).trans s5_12
 have s6_13 := (hO 6 rfl).trans s6_12
 clear hO hv hN_12 hD_12 s0_12 s4_12 s5_12 s6_12 s25_12 s7_12
 refine tail_nil ?_
 refine round_step ?_
 refine wp_seq ?_
 refine wp_seq ?_
 refine region_lex [] [(22, Pr.ex (i64 ((2 : Nat) : Int))), (23, Pr.ex (Value.bool (true)))] 2 hN_13 hD_13 (by kernel_rfl) (by kernel_rfl) ?_ ?_
 refine Asks.cons ?_ (Asks.cons ?_ (Asks.zero _))
 exact Ask.plain rfl rfl fun aq wq hNq hO hR hT => does_move (V := i64 ((2 : Nat) : Int)) ((hO 7 rfl).trans s7_13) ⟨Ext.refl _, rfl⟩
 exact Ask.plain rfl rfl fun aq wq hNq hO hR hT => does_geq (a := ((2 : Nat) : Int)) (b := ((0 : Nat) : Int)) (hT 22 rfl rfl) rfl ⟨Ext.refl _, rfl⟩
 intro a14 wd14 hN_14 hD_14 hO hR hA hU
 obtain ⟨_, t23, _⟩ := hA
 have hE_14 := hE_12.trans hR
 have s0_14 := (hO 0 rfl).trans s0_13
 have s4_14 := (hO 4 rfl).trans s4_13
 have s5_14 := (hO 5 rfl).trans s5_13
 have s6_14 := (hO 6 rfl).trans s6_13
 have s7_14 := (hO 7 rfl).trans s7_13
 have hsxo_14 := hsxo_12.ext' hR
 have hoxo_14 := hoxo_12.ext' hR
 have s23_14 : get a14 23 = Value.bool (true) := t23
 clear hE_12 hN_13 hD_13 s0_13 s4_13 s5_13 s6_13 s7_13 hsxo_12 hoxo_12
 refine tail_nil ?_
 refine wp_ifT s23_14 ?_
 refine wp_skip ?_
 refine wp_seq ?_
 refine wp_block ?_
 refine region_lex [] [(26, Pr.ex (w32 (((0 : UInt32) * (256 : UInt32) : UInt32) + (UInt32.ofNat (d).toNat : UInt32)))), (27, Pr.ex (w32 ((((0 : UInt32) * (256 : UInt32) : UInt32) + (UInt32.ofNat (d).toNat : UInt32) : UInt32) * (256 : UInt32)))), (28, Pr.ex (str (s))), (29, Pr.ex (i64 ((i : Nat) : Int))), (30, Pr.ex (i64 ((2 : Nat) : Int))), (31, Pr.ex (i64 ((i + 2 : Nat) : Int))), (32, Pr.ex (w8 (c))), (33, Pr.ex (w32 (UInt32.ofNat (c).toNat))), (34, Pr.ex (w32 (((((0 : UInt32) * (256 : UInt32) : UInt32) + (UInt32.ofNat (d).toNat : UInt32) : UInt32) * (256 : UInt32) : UInt32) + (UInt32.ofNat (c).toNat : UInt32))))] 9 hN_14 hD_14 (by kernel_rfl) (by kernel_rfl) ?_ ?_
 refine Asks.cons ?_ (Asks.cons ?_ (Asks.cons ?_ (Asks.cons ?_ (Asks.cons ?_ (Asks.cons ?_ (Asks.cons ?_ (Asks.cons ?_ (Asks.cons ?_ (Asks.zero _)))))))))
 exact Ask.plain rfl rfl fun aq wq hNq hO hR hT => does_move (V := w32 (((0 : UInt32) * (256 : UInt32) : UInt32) + (UInt32.ofNat (d).toNat : UInt32))) ((hO 6 rfl).trans s6_14) ⟨Ext.refl _, rfl⟩
 exact Ask.plain rfl rfl fun aq wq hNq hO hR hT => does_mul32 (a := (((0 : UInt32) * (256 : UInt32) : UInt32) + (UInt32.ofNat (d).toNat : UInt32) : UInt32)) (b := (256 : UInt32)) (hT 26 rfl rfl) rfl ⟨Ext.refl _, rfl⟩
 exact Ask.plain rfl rfl fun aq wq hNq hO hR hT => does_move (V := str (s)) ((hO 0 rfl).trans s0_14) ⟨Ext.refl _, rfl⟩
 exact Ask.plain rfl rfl fun aq wq hNq hO hR hT => does_move (V := i64 ((i : Nat) : Int)) ((hO 5 rfl).trans s5_14) ⟨Ext.refl _, rfl⟩
 exact Ask.plain rfl rfl fun aq wq hNq hO hR hT => does_move (V := i64 ((2 : Nat) : Int)) ((hO 7 rfl).trans s7_14) ⟨Ext.refl _, rfl⟩
 exact Ask.plain rfl rfl fun aq wq hNq hO hR hT => does_add (a := ((i : Nat) : Int)) (b := ((2 : Nat) : Int)) (r := ((i + 2 : Nat) : Int)) (hT 29 rfl rfl) (hT 30 rfl rfl) (by omega) (by omega) (by omega) ⟨Ext.refl _, rfl⟩
 exact Ask.plain rfl rfl fun aq wq hNq hO hR hT => does_indexStr (l := s) (i := ((i + 2 : Nat) : Int)) (c := c) Tryd.underlying9 (hT 28 rfl rfl) (hT 31 rfl rfl) (by omega) (by have h := drop_get hm4 2; exact h) ⟨Ext.refl _, rfl⟩
 exact Ask.plain rfl rfl fun aq wq hNq hO hR hT => does_conv ⟨_, Tryd.underlying5⟩ Tryd.underlying22 (hT 32 rfl rfl) (wrap_u32 _) ⟨Ext.refl _, rfl⟩
 exact Ask.plain rfl rfl fun aq wq hNq hO hR hT => does_add32 (a := ((((0 : UInt32) * (256 : UInt32) : UInt32) + (UInt32.ofNat (d).toNat : UInt32) : UInt32) * (256 : UInt32) : UInt32)) (b := (UInt32.ofNat (c).toNat : UInt32)) (hT 27 rfl rfl) (hT 33 rfl rfl) ⟨Ext.refl _, rfl⟩
 intro a15 wd15 hN_15 hD_15 hO hR hA hU
 obtain ⟨_, _, _, _, _, _, _, _, t34, _⟩ := hA
 have hE_15 := hE_14.trans hR
 have s0_15 := (hO 0 rfl).trans s0_14
 have s4_15 := (hO 4 rfl).trans s4_14
 have s5_15 := (hO 5 rfl).trans s5_14
 have s6_15 := (hO 6 rfl).trans s6_14
 have s7_15 := (hO 7 rfl).trans s7_14
 have hsxo_15 := hsxo_14.ext' hR
 have hoxo_15 := hoxo_14.ext' hR
 have s34_15 : get a15 34 = w32 (((((0 : UInt32) * (256 : UInt32) : UInt32) + (UInt32.ofNat (d).toNat : UInt32) : UInt32) * (256 : UInt32) : UInt32) + (UInt32.ofNat (c).toNat : UInt32)) := t34
 clear hE_14 hN_14 hD_14 s0_14 s4_14 s5_14 s6_14 s7_14 s23_14 hsxo_14 hoxo_14
 refine tail_put rfl rfl hN_15 hD_15 (by decide) (does_assign (V := w32 (((((0 : UInt32) * (256 : UInt32) : UInt32) + (UInt32.ofNat (d).toNat : UInt32) : UInt32) * (256 : UInt32) : UInt32) + (UInt32.ofNat (c).toNat : UInt32))) s34_15 (fun a16 hN_16 hD_16 hv hO => ?_))
 have s6_16 := hv
 have s0_16 := (hO 0 rfl).trans s0_15
 have s4_16 := (hO 4 rfl).trans s4_15
 have s5_16 := (hO 5 rfl).trans s5_15
 have s7_16 := (hO 7 rfl).trans s7_15
 clear hO hv hN_15 hD_15 s0_15 s4_15 s5_15 s7_15 s34_15 s6_15
 refine tail_nil ?_
 refine region_lex [] [(24, Pr.ex (i64 ((2 : Nat) : Int))), (25, Pr.ex (i64 ((1 : Nat) : Int)))] 2 hN_16 hD_16 (by kernel_rfl) (by kernel_rfl) ?_ ?_
 refine Asks.cons ?_ (Asks.cons ?_ (Asks.zero _))
 exact Ask.plain rfl rfl fun aq wq hNq hO hR hT => does_move (V := i64 ((2 : Nat) : Int)) ((hO 7 rfl).trans s7_16) ⟨Ext.refl _, rfl⟩
 exact Ask.plain rfl rfl fun aq wq hNq hO hR hT => does_sub (a := ((2 : Nat) : Int)) (b := ((1 : Nat) : Int)) (r := ((1 : Nat) : Int)) (hT 24 rfl rfl) rfl (by decide) (by decide) (by decide) ⟨Ext.refl _, rfl⟩
 intro a17 wd17 hN_17 hD_17 hO hR hA hU
 obtain ⟨_, t25, _⟩ := hA
 have hE_17 := hE_15.trans hR
 have s0_17 := (hO 0 rfl).trans s0_16
 have s4_17 := (hO 4 rfl).trans s4_16
 have s5_17 := (hO 5 rfl).trans s5_16
 have s6_17 := (hO 6 rfl).trans s6_16
 have s7_17 := (hO 7 rfl).trans s7_16
 have hsxo_17 := hsxo_15.ext' hR
 have hoxo_17 := hoxo_15.ext' hR
 have s25_17 : get a17 25 = i64 ((1 : Nat) : Int) := t25
 clear hE_15 hN_16 hD_16 s0_16 s4_16 s5_16 s6_16 s7_16 hsxo_15 hoxo_15
 refine tail_put rfl rfl hN_17 hD_17 (by decide) (does_assign (V := i64 ((1 : Nat) : Int)) s25_17 (fun a18 hN_18 hD_18 hv hO => ?_))
 have s7_18 := hv
 have s0_18 := (hO 0 rfl).trans s0_17
 have s4_18 := (hO 4 rfl).trans s4_17
 have s5_18 := (hO 5 rfl).trans s5_17
 have s6_18 := (hO 6 rfl).trans s6_17
 clear hO hv hN_17 hD_17 s0_17 s4_17 s5_17 s6_17 s25_17 s7_17
 refine tail_nil ?_
 refine round_step ?_
 refine wp_seq ?_
 refine wp_seq ?_
 refine region_lex [] [(22, Pr.ex (i64 ((1 : Nat) : Int))), (23, Pr.ex (Value.bool (true)))] 2 hN_18 hD_18 (by kernel_rfl) (by kernel_rfl) ?_ ?_
 refine Asks.cons ?_ (Asks.cons ?_ (Asks.zero _))
 exact Ask.plain rfl rfl fun aq wq hNq hO hR hT => does_move (V := i64 ((1 : Nat) : Int)) ((hO 7 rfl).trans s7_18) ⟨Ext.refl _, rfl⟩
 exact Ask.plain rfl rfl fun aq wq hNq hO hR hT => does_geq (a := ((1 : Nat) : Int)) (b := ((0 : Nat) : Int)) (hT 22 rfl rfl) rfl ⟨Ext.refl _, rfl⟩
 intro a19 wd19 hN_19 hD_19 hO hR hA hU
 obtain ⟨_, t23, _⟩ := hA
 have hE_19 := hE_17.trans hR
 have s0_19 := (hO 0 rfl).trans s0_18
 have s4_19 := (hO 4 rfl).trans s4_18
 have s5_19 := (hO 5 rfl).trans s5_18
 have s6_19 := (hO 6 rfl).trans s6_18
 have s7_19 := (hO 7 rfl).trans s7_18
 have hsxo_19 := hsxo_17.ext' hR
 have hoxo_19 := hoxo_17.ext' hR
 have s23_19 : get a19 23 = Value.bool (true) := t23
 clear hE_17 hN_18 hD_18 s0_18 s4_18 s5_18 s6_18 s7_18 hsxo_17 hoxo_17
 refine tail_nil ?_
 refine wp_ifT s23_19 ?_
 refine wp_skip ?_
 refine wp_seq ?_
 refine wp_block ?_
 refine region_lex [] [(26, Pr.ex (w32 (((((0 : UInt32) * (256 : UInt32) : UInt32) + (UInt32.ofNat (d).toNat : UInt32) : UInt32) * (256 : UInt32) : UInt32) + (UInt32.ofNat (c).toNat : UInt32)))), (27, Pr.ex (w32 ((((((0 : UInt32) * (256 : UInt32) : UInt32) + (UInt32.ofNat (d).toNat : UInt32) : UInt32) * (256 : UInt32) : UInt32) + (UInt32.ofNat (c).toNat : UInt32) : UInt32) * (256 : UInt32)))), (28, Pr.ex (str (s))), (29, Pr.ex (i64 ((i : Nat) : Int))), (30, Pr.ex (i64 ((1 : Nat) : Int))), (31, Pr.ex (i64 ((i + 1 : Nat) : Int))), (32, Pr.ex (w8 (b))), (33, Pr.ex (w32 (UInt32.ofNat (b).toNat))), (34, Pr.ex (w32 (((((((0 : UInt32) * (256 : UInt32) : UInt32) + (UInt32.ofNat (d).toNat : UInt32) : UInt32) * (256 : UInt32) : UInt32) + (UInt32.ofNat (c).toNat : UInt32) : UInt32) * (256 : UInt32) : UInt32) + (UInt32.ofNat (b).toNat : UInt32))))] 9 hN_19 hD_19 (by kernel_rfl) (by kernel_rfl) ?_ ?_
 refine Asks.cons ?_ (Asks.cons ?_ (Asks.cons ?_ (Asks.cons ?_ (Asks.cons ?_ (Asks.cons ?_ (Asks.cons ?_ (Asks.cons ?_ (Asks.cons ?_ (Asks.zero _)))))))))
 exact Ask.plain rfl rfl fun aq wq hNq hO hR hT => does_move (V := w32 (((((0 : UInt32) * (256 : UInt32) : UInt32) + (UInt32.ofNat (d).toNat : UInt32) : UInt32) * (256 : UInt32) : UInt32) + (UInt32.ofNat (c).toNat : UInt32))) ((hO 6 rfl).trans s6_19) ⟨Ext.refl _, rfl⟩
 exact Ask.plain rfl rfl fun aq wq hNq hO hR hT => does_mul32 (a := (((((0 : UInt32) * (256 : UInt32) : UInt32) + (UInt32.ofNat (d).toNat : UInt32) : UInt32) * (256 : UInt32) : UInt32) + (UInt32.ofNat (c).toNat : UInt32) : UInt32)) (b := (256 : UInt32)) (hT 26 rfl rfl) rfl ⟨Ext.refl _, rfl⟩
 exact Ask.plain rfl rfl fun aq wq hNq hO hR hT => does_move (V := str (s)) ((hO 0 rfl).trans s0_19) ⟨Ext.refl _, rfl⟩
 exact Ask.plain rfl rfl fun aq wq hNq hO hR hT => does_move (V := i64 ((i : Nat) : Int)) ((hO 5 rfl).trans s5_19) ⟨Ext.refl _, rfl⟩
 exact Ask.plain rfl rfl fun aq wq hNq hO hR hT => does_move (V := i64 ((1 : Nat) : Int)) ((hO 7 rfl).trans s7_19) ⟨Ext.refl _, rfl⟩
 exact Ask.plain rfl rfl fun aq wq hNq hO hR hT => does_add (a := ((i : Nat) : Int)) (b := ((1 : Nat) : Int)) (r := ((i + 1 : Nat) : Int)) (hT 29 rfl rfl) (hT 30 rfl rfl) (by omega) (by omega) (by omega) ⟨Ext.refl _, rfl⟩
 exact Ask.plain rfl rfl fun aq wq hNq hO hR hT => does_indexStr (l := s) (i := ((i + 1 : Nat) : Int)) (c := b) Tryd.underlying9 (hT 28 rfl rfl) (hT 31 rfl rfl) (by omega) (by have h := drop_get hm4 1; exact h) ⟨Ext.refl _, rfl⟩
 exact Ask.plain rfl rfl fun aq wq hNq hO hR hT => does_conv ⟨_, Tryd.underlying5⟩ Tryd.underlying22 (hT 32 rfl rfl) (wrap_u32 _) ⟨Ext.refl _, rfl⟩
 exact Ask.plain rfl rfl fun aq wq hNq hO hR hT => does_add32 (a := ((((((0 : UInt32) * (256 : UInt32) : UInt32) + (UInt32.ofNat (d).toNat : UInt32) : UInt32) * (256 : UInt32) : UInt32) + (UInt32.ofNat (c).toNat : UInt32) : UInt32) * (256 : UInt32) : UInt32)) (b := (UInt32.ofNat (b).toNat : UInt32)) (hT 27 rfl rfl) (hT 33 rfl rfl) ⟨Ext.refl _, rfl⟩
 intro a20 wd20 hN_20 hD_20 hO hR hA hU
 obtain ⟨_, _, _, _, _, _, _, _, t34, _⟩ := hA
 have hE_20 := hE_19.trans hR
 have s0_20 := (hO 0 rfl).trans s0_19
 have s4_20 := (hO 4 rfl).trans s4_19
 have s5_20 := (hO 5 rfl).trans s5_19
 have s6_20 := (hO 6 rfl).trans s6_19
 have s7_20 := (hO 7 rfl).trans s7_19
 have hsxo_20 := hsxo_19.ext' hR
 have hoxo_20 := hoxo_19.ext' hR
 have s34_20 : get a20 34 = w32 (((((((0 : UInt32) * (256 : UInt32) : UInt32) + (UInt32.ofNat (d).toNat : UInt32) : UInt32) * (256 : UInt32) : UInt32) + (UInt32.ofNat (c).toNat : UInt32) : UInt32) * (256 : UInt32) : UInt32) + (UInt32.ofNat (b).toNat : UInt32)) := t34
 clear hE_19 hN_19 hD_19 s0_19 s4_19 s5_19 s6_19 s7_19 s23_19 hsxo_19 hoxo_19
 refine tail_put rfl rfl hN_20 hD_20 (by decide) (does_assign (V := w32 (((((((0 : UInt32) * (256 : UInt32) : UInt32) + (UInt32.ofNat (d).toNat : UInt32) : UInt32) * (256 : UInt32) : UInt32) + (UInt32.ofNat (c).toNat : UInt32) : UInt32) * (256 : UInt32) : UInt32) + (UInt32.ofNat (b).toNat : UInt32))) s34_20 (fun a21 hN_21 hD_21 hv hO => ?_))
 have s6_21 := hv
 have s0_21 := (hO 0 rfl).trans s0_20
 have s4_21 := (hO 4 rfl).trans s4_20
 have s5_21 := (hO 5 rfl).trans s5_20
 have s7_21 := (hO 7 rfl).trans s7_20
 clear hO hv hN_20 hD_20 s0_20 s4_20 s5_20 s7_20 s34_20 s6_20
 refine tail_nil ?_
 refine region_lex [] [(24, Pr.ex (i64 ((1 : Nat) : Int))), (25, Pr.ex (i64 ((0 : Nat) : Int)))] 2 hN_21 hD_21 (by kernel_rfl) (by kernel_rfl) ?_ ?_
 refine Asks.cons ?_ (Asks.cons ?_ (Asks.zero _))
 exact Ask.plain rfl rfl fun aq wq hNq hO hR hT => does_move (V := i64 ((1 : Nat) : Int)) ((hO 7 rfl).trans s7_21) ⟨Ext.refl _, rfl⟩
 exact Ask.plain rfl rfl fun aq wq hNq hO hR hT => does_sub (a := ((1 : Nat) : Int)) (b := ((1 : Nat) : Int)) (r := ((0 : Nat) : Int)) (hT 24 rfl rfl) rfl (by decide) (by decide) (by decide) ⟨Ext.refl _, rfl⟩
 intro a22 wd22 hN_22 hD_22 hO hR hA hU
 obtain ⟨_, t25, _⟩ := hA
 have hE_22 := hE_20.trans hR
 have s0_22 := (hO 0 rfl).trans s0_21
 have s4_22 := (hO 4 rfl).trans s4_21
 have s5_22 := (hO 5 rfl).trans s5_21
 have s6_22 := (hO 6 rfl).trans s6_21
 have s7_22 := (hO 7 rfl).trans s7_21
 have hsxo_22 := hsxo_20.ext' hR
 have hoxo_22 := hoxo_20.ext' hR
 have s25_22 : get a22 25 = i64 ((0 : Nat) : Int) := t25
 clear hE_20 hN_21 hD_21 s0_21 s4_21 s5_21 s6_21 s7_21 hsxo_20 hoxo_20
 refine tail_put rfl rfl hN_22 hD_22 (by decide) (does_assign (V := i64 ((0 : Nat) : Int)) s25_22 (fun a23 hN_23 hD_23 hv hO => ?_))
 have s7_23 := hv
 have s0_23 := (hO 0 rfl).trans s0_22
 have s4_23 := (hO 4 rfl).trans s4_22
 have s5_23 := (hO 5 rfl).trans s5_22
 have s6_23 := (hO 6 rfl).trans s6_22
 clear hO hv hN_22 hD_22 s0_22 s4_22 s5_22 s6_22 s25_22 s7_22
 refine tail_nil ?_
 refine round_step ?_
 refine wp_seq ?_
 refine wp_seq ?_
 refine region_lex [] [(22, Pr.ex (i64 ((0 : Nat) : Int))), (23, Pr.ex (Value.bool (true)))] 2 hN_23 hD_23 (by kernel_rfl) (by kernel_rfl) ?_ ?_
 refine Asks.cons ?_ (Asks.cons ?_ (Asks.zero _))
 exact Ask.plain rfl rfl fun aq wq hNq hO hR hT => does_move (V := i64 ((0 : Nat) : Int)) ((hO 7 rfl).trans s7_23) ⟨Ext.refl _, rfl⟩
 exact Ask.plain rfl rfl fun aq wq hNq hO hR hT => does_geq (a := ((0 : Nat) : Int)) (b := ((0 : Nat) : Int)) (hT 22 rfl rfl) rfl ⟨Ext.refl _, rfl⟩
 intro a24 wd24 hN_24 hD_24 hO hR hA hU
 obtain ⟨_, t23, _⟩ := hA
 have hE_24 := hE_22.trans hR
 have s0_24 := (hO 0 rfl).trans s0_23
 have s4_24 := (hO 4 rfl).trans s4_23
 have s5_24 := (hO 5 rfl).trans s5_23
 have s6_24 := (hO 6 rfl).trans s6_23
 have s7_24 := (hO 7 rfl).trans s7_23
 have hsxo_24 := hsxo_22.ext' hR
 have hoxo_24 := hoxo_22.ext' hR
 have s23_24 : get a24 23 = Value.bool (true) := t23
 clear hE_22 hN_23 hD_23 s0_23 s4_23 s5_23 s6_23 s7_23 hsxo_22 hoxo_22
 refine tail_nil ?_
 refine wp_ifT s23_24 ?_
 refine wp_skip ?_
 refine wp_seq ?_
 refine wp_block ?_
 refine region_lex [] [(26, Pr.ex (w32 (((((((0 : UInt32) * (256 : UInt32) : UInt32) + (UInt32.ofNat (d).toNat : UInt32) : UInt32) * (256 : UInt32) : UInt32) + (UInt32.ofNat (c).toNat : UInt32) : UInt32) * (256 : UInt32) : UInt32) + (UInt32.ofNat (b).toNat : UInt32)))), (27, Pr.ex (w32 ((((((((0 : UInt32) * (256 : UInt32) : UInt32) + (UInt32.ofNat (d).toNat : UInt32) : UInt32) * (256 : UInt32) : UInt32) + (UInt32.ofNat (c).toNat : UInt32) : UInt32) * (256 : UInt32) : UInt32) + (UInt32.ofNat (b).toNat : UInt32) : UInt32) * (256 : UInt32)))), (28, Pr.ex (str (s))), (29, Pr.ex (i64 ((i : Nat) : Int))), (30, Pr.ex (i64 ((0 : Nat) : Int))), (31, Pr.ex (i64 ((i + 0 : Nat) : Int))), (32, Pr.ex (w8 (a))), (33, Pr.ex (w32 (UInt32.ofNat (a).toNat))), (34, Pr.ex (w32 (((((((((0 : UInt32) * (256 : UInt32) : UInt32) + (UInt32.ofNat (d).toNat : UInt32) : UInt32) * (256 : UInt32) : UInt32) + (UInt32.ofNat (c).toNat : UInt32) : UInt32) * (256 : UInt32) : UInt32) + (UInt32.ofNat (b).toNat : UInt32) : UInt32) * (256 : UInt32) : UInt32) + (UInt32.ofNat (a).toNat : UInt32))))] 9 hN_24 hD_24 (by kernel_rfl) (by kernel_rfl) ?_ ?_
 refine Asks.cons ?_ (Asks.cons ?_ (Asks.cons ?_ (Asks.cons ?_ (Asks.cons ?_ (Asks.cons ?_ (Asks.cons ?_ (Asks.cons ?_ (Asks.cons ?_ (Asks.zero _)))))))))
 exact Ask.plain rfl rfl fun aq wq hNq hO hR hT => does_move (V := w32 (((((((0 : UInt32) * (256 : UInt32) : UInt32) + (UInt32.ofNat (d).toNat : UInt32) : UInt32) * (256 : UInt32) : UInt32) + (UInt32.ofNat (c).toNat : UInt32) : UInt32) * (256 : UInt32) : UInt32) + (UInt32.ofNat (b).toNat : UInt32))) ((hO 6 rfl).trans s6_24) ⟨Ext.refl _, rfl⟩
 exact Ask.plain rfl rfl fun aq wq hNq hO hR hT => does_mul32 (a := (((((((0 : UInt32) * (256 : UInt32) : UInt32) + (UInt32.ofNat (d).toNat : UInt32) : UInt32) * (256 : UInt32) : UInt32) + (UInt32.ofNat (c).toNat : UInt32) : UInt32) * (256 : UInt32) : UInt32) + (UInt32.ofNat (b).toNat : UInt32) : UInt32)) (b := (256 : UInt32)) (hT 26 rfl rfl) rfl ⟨Ext.refl _, rfl⟩
 exact Ask.plain rfl rfl fun aq wq hNq hO hR hT => does_move (V := str (s)) ((hO 0 rfl).trans s0_24) ⟨Ext.refl _, rfl⟩
 exact Ask.plain rfl rfl fun aq wq hNq hO hR hT => does_move (V := i64 ((i : Nat) : Int)) ((hO 5 rfl).trans s5_24) ⟨Ext.refl _, rfl⟩
 exact Ask.plain rfl rfl fun aq wq hNq hO hR hT => does_move (V := i64 ((0 : Nat) : Int)) ((hO 7 rfl).trans s7_24) ⟨Ext.refl _, rfl⟩
 exact Ask.plain rfl rfl fun aq wq hNq hO hR hT => does_add (a := ((i : Nat) : Int)) (b := ((0 : Nat) : Int)) (r := ((i + 0 : Nat) : Int)) (hT 29 rfl rfl) (hT 30 rfl rfl) (by omega) (by omega) (by omega) ⟨Ext.refl _, rfl⟩
 exact Ask.plain rfl rfl fun aq wq hNq hO hR hT => does_indexStr (l := s) (i := ((i + 0 : Nat) : Int)) (c := a) Tryd.underlying9 (hT 28 rfl rfl) (hT 31 rfl rfl) (by omega) (by have h := drop_get hm4 0; exact h) ⟨Ext.refl _, rfl⟩
 exact Ask.plain rfl rfl fun aq wq hNq hO hR hT => does_conv ⟨_, Tryd.underlying5⟩ Tryd.underlying22 (hT 32 rfl rfl) (wrap_u32 _) ⟨Ext.refl _, rfl⟩
 exact Ask.plain rfl rfl fun aq wq hNq hO hR hT => does_add32 (a := ((((((((0 : UInt32) * (256 : UInt32) : UInt32) + (UInt32.ofNat (d).toNat : UInt32) : UInt32) * (256 : UInt32) : UInt32) + (UInt32.ofNat (c).toNat : UInt32) : UInt32) * (256 : UInt32) : UInt32) + (UInt32.ofNat (b).toNat : UInt32) : UInt32) * (256 : UInt32) : UInt32)) (b := (UInt32.ofNat (a).toNat : UInt32)) (hT 27 rfl rfl) (hT 33 rfl rfl) ⟨Ext.refl _, rfl⟩
 intro a25 wd25 hN_25 hD_25 hO hR hA hU
 obtain ⟨_, _, _, _, _, _, _, _, t34, _⟩ := hA
 have hE_25 := hE_24.trans hR
 have s0_25 := (hO 0 rfl).trans s0_24
 have s4_25 := (hO 4 rfl).trans s4_24
 have s5_25 := (hO 5 rfl).trans s5_24
 have s6_25 := (hO 6 rfl).trans s6_24
 have s7_25 := (hO 7 rfl).trans s7_24
 have hsxo_25 := hsxo_24.ext' hR
 have hoxo_25 := hoxo_24.ext' hR
 have s34_25 : get a25 34 = w32 (((((((((0 : UInt32) * (256 : UInt32) : UInt32) + (UInt32.ofNat (d).toNat : UInt32) : UInt32) * (256 : UInt32) : UInt32) + (UInt32.ofNat (c).toNat : UInt32) : UInt32) * (256 : UInt32) : UInt32) + (UInt32.ofNat (b).toNat : UInt32) : UInt32) * (256 : UInt32) : UInt32) + (UInt32.ofNat (a).toNat : UInt32)) := t34
 clear hE_24 hN_24 hD_24 s0_24 s4_24 s5_24 s6_24 s7_24 s23_24 hsxo_24 hoxo_24
 refine tail_put rfl rfl hN_25 hD_25 (by decide) (does_assign (V := w32 (((((((((0 : UInt32) * (256 : UInt32) : UInt32) + (UInt32.ofNat (d).toNat : UInt32) : UInt32) * (256 : UInt32) : UInt32) + (UInt32.ofNat (c).toNat : UInt32) : UInt32) * (256 : UInt32) : UInt32) + (UInt32.ofNat (b).toNat : UInt32) : UInt32) * (256 : UInt32) : UInt32) + (UInt32.ofNat (a).toNat : UInt32))) s34_25 (fun a26 hN_26 hD_26 hv hO => ?_))
 have s6_26 := hv
 have s0_26 := (hO 0 rfl).trans s0_25
 have s4_26 := (hO 4 rfl).trans s4_25
 have s5_26 := (hO 5 rfl).trans s5_25
 have s7_26 := (hO 7 rfl).trans s7_25
 clear hO hv hN_25 hD_25 s0_25 s4_25 s5_25 s7_25 s34_25 s6_25
 refine tail_nil ?_
 refine region_lex [] [(24, Pr.ex (i64 ((0 : Nat) : Int))), (25, Pr.ex (i64 (-1)))] 2 hN_26 hD_26 (by kernel_rfl) (by kernel_rfl) ?_ ?_
 refine Asks.cons ?_ (Asks.cons ?_ (Asks.zero _))
 exact Ask.plain rfl rfl fun aq wq hNq hO hR hT => does_move (V := i64 ((0 : Nat) : Int)) ((hO 7 rfl).trans s7_26) ⟨Ext.refl _, rfl⟩
 exact Ask.plain rfl rfl fun aq wq hNq hO hR hT => does_sub (a := ((0 : Nat) : Int)) (b := ((1 : Nat) : Int)) (r := -1) (hT 24 rfl rfl) rfl (by decide) (by decide) (by decide) ⟨Ext.refl _, rfl⟩
 intro a27 wd27 hN_27 hD_27 hO hR hA hU
 obtain ⟨_, t25, _⟩ := hA
 have hE_27 := hE_25.trans hR
 have s0_27 := (hO 0 rfl).trans s0_26
 have s4_27 := (hO 4 rfl).trans s4_26
 have s5_27 := (hO 5 rfl).trans s5_26
 have s6_27 := (hO 6 rfl).trans s6_26
 have s7_27 := (hO 7 rfl).trans s7_26
 have hsxo_27 := hsxo_25.ext' hR
 have hoxo_27 := hoxo_25.ext' hR
 have s25_27 : get a27 25 = i64 (-1) := t25
 clear hE_25 hN_26 hD_26 s0_26 s4_26 s5_26 s6_26 s7_26 hsxo_25 hoxo_25
 refine tail_put rfl rfl hN_27 hD_27 (by decide) (does_assign (V := i64 (-1)) s25_27 (fun a28 hN_28 hD_28 hv hO => ?_))
 have s7_28 := hv
 have s0_28 := (hO 0 rfl).trans s0_27
 have s4_28 := (hO 4 rfl).trans s4_27
 have s5_28 := (hO 5 rfl).trans s5_27
 have s6_28 := (hO 6 rfl).trans s6_27
 clear hO hv hN_27 hD_27 s0_27 s4_27 s5_27 s6_27 s25_27 s7_27
 refine tail_nil ?_
 refine round_step ?_
 refine wp_seq ?_
 refine wp_seq ?_
 refine region_lex [] [(22, Pr.ex (i64 (-1))), (23, Pr.ex (Value.bool (false)))] 2 hN_28 hD_28 (by kernel_rfl) (by kernel_rfl) ?_ ?_
 refine Asks.cons ?_ (Asks.cons ?_ (Asks.zero _))
 exact Ask.plain rfl rfl fun aq wq hNq hO hR hT => does_move (V := i64 (-1)) ((hO 7 rfl).trans s7_28) ⟨Ext.refl _, rfl⟩
 exact Ask.plain rfl rfl fun aq wq hNq hO hR hT => does_geq (a := -1) (b := ((0 : Nat) : Int)) (hT 22 rfl rfl) rfl ⟨Ext.refl _, rfl⟩
 intro a29 wd29 hN_29 hD_29 hO hR hA hU
 obtain ⟨_, t23, _⟩ := hA
 have hE_29 := hE_27.trans hR
 have s0_29 := (hO 0 rfl).trans s0_28
 have s4_29 := (hO 4 rfl).trans s4_28
 have s5_29 := (hO 5 rfl).trans s5_28
 have s6_29 := (hO 6 rfl).trans s6_28
 have s7_29 := (hO 7 rfl).trans s7_28
 have hsxo_29 := hsxo_27.ext' hR
 have hoxo_29 := hoxo_27.ext' hR
 have s23_29 : get a29 23 = Value.bool (false) := t23
 clear hE_27 hN_28 hD_28 s0_28 s4_28 s5_28 s6_28 s7_28 hsxo_27 hoxo_27
 refine tail_nil ?_
 refine wp_ifF s23_29 ?_
 refine wp_exit ?_
 refine region_lex [] [(35, Pr.ex (xo)), (36, Pr.ex (w32 (((((((((0 : UInt32) * (256 : UInt32) : UInt32) + (UInt32.ofNat (d).toNat : UInt32) : UInt32) * (256 : UInt32) : UInt32) + (UInt32.ofNat (c).toNat : UInt32) : UInt32) * (256 : UInt32) : UInt32) + (UInt32.ofNat (b).toNat : UInt32) : UInt32) * (256 : UInt32) : UInt32) + (UInt32.ofNat (a).toNat : UInt32)))), (37, Pr.own' W32 wd29.heap.size 22 ([((((((((0 : UInt32) * (256 : UInt32) : UInt32) + (UInt32.ofNat (d).toNat : UInt32) : UInt32) * (256 : UInt32) : UInt32) + (UInt32.ofNat (c).toNat : UInt32) : UInt32) * (256 : UInt32) : UInt32) + (UInt32.ofNat (b).toNat : UInt32) : UInt32) * (256 : UInt32) : UInt32) + (UInt32.ofNat (a).toNat : UInt32)]))] 3 hN_29 hD_29 (by kernel_rfl) (by kernel_rfl) ?_ ?_
 refine Asks.cons ?_ (Asks.cons ?_ (Asks.cons ?_ (Asks.zero _)))
 exact Ask.plain rfl rfl fun aq wq hNq hO hR hT => does_move (V := xo) ((hO 4 rfl).trans s4_29) ⟨Ext.refl _, rfl⟩
 exact Ask.plain rfl rfl fun aq wq hNq hO hR hT => does_move (V := w32 (((((((((0 : UInt32) * (256 : UInt32) : UInt32) + (UInt32.ofNat (d).toNat : UInt32) : UInt32) * (256 : UInt32) : UInt32) + (UInt32.ofNat (c).toNat : UInt32) : UInt32) * (256 : UInt32) : UInt32) + (UInt32.ofNat (b).toNat : UInt32) : UInt32) * (256 : UInt32) : UInt32) + (UInt32.ofNat (a).toNat : UInt32))) ((hO 6 rfl).trans s6_29) ⟨Ext.refl _, rfl⟩
 exact Ask.plain rfl rfl fun aq wq hNq hO hR hT => does_slice1 (T := W32) (X := ((((((((0 : UInt32) * (256 : UInt32) : UInt32) + (UInt32.ofNat (d).toNat : UInt32) : UInt32) * (256 : UInt32) : UInt32) + (UInt32.ofNat (c).toNat : UInt32) : UInt32) * (256 : UInt32) : UInt32) + (UInt32.ofNat (b).toNat : UInt32) : UInt32) * (256 : UInt32) : UInt32) + (UInt32.ofNat (a).toNat : UInt32)) (V := w32 (((((((((0 : UInt32) * (256 : UInt32) : UInt32) + (UInt32.ofNat (d).toNat : UInt32) : UInt32) * (256 : UInt32) : UInt32) + (UInt32.ofNat (c).toNat : UInt32) : UInt32) * (256 : UInt32) : UInt32) + (UInt32.ofNat (b).toNat : UInt32) : UInt32) * (256 : UInt32) : UInt32) + (UInt32.ofNat (a).toNat : UInt32))) app_70 rfl (by decide) (hT 36 rfl rfl) rfl (fun v w2 he _ ho => ⟨he, OwnT.base ho hR.size'⟩)
 intro a30 wd30 hN_30 hD_30 hO hR hA hU
 obtain ⟨t35, _, t37, _⟩ := hA
 have hE_30 := hE_29.trans hR
 have s0_30 := (hO 0 rfl).trans s0_29
 have s4_30 := (hO 4 rfl).trans s4_29
 have s5_30 := (hO 5 rfl).trans s5_29
 have hsxo_30 := hsxo_29.ext' hR
 have hoxo_30 := hoxo_29.ext' hR
 have s35_30 : get a30 35 = xo := t35
 obtain ⟨x37, s37_30⟩ : ∃ x, get a30 37 = x := ⟨_, rfl⟩
 replace t37 : OwnT W32 wd29.heap.size 22 ([((((((((0 : UInt32) * (256 : UInt32) : UInt32) + (UInt32.ofNat (d).toNat : UInt32) : UInt32) * (256 : UInt32) : UInt32) + (UInt32.ofNat (c).toNat : UInt32) : UInt32) * (256 : UInt32) : UInt32) + (UInt32.ofNat (b).toNat : UInt32) : UInt32) * (256 : UInt32) : UInt32) + (UInt32.ofNat (a).toNat : UInt32)]) x37 wd30 := by rw [← s37_30]; exact t37
 have no_x37_xo : ∀ k, x37.ownBlock = some k → xo.ownBlock ≠ some k := fun k e e' => Nat.lt_irrefl _ (Nat.lt_of_lt_of_le (OwnT.block_lt hoxo_29 e').2 (OwnT.block_lt t37 e).1)
 have hsx37_30 := t37.sl.wide (Nat.zero_le _) (.inl rfl)
 have hox37_30 := OwnT.base t37 hE_29.size'
 clear hE_29 hN_29 hD_29 s0_29 s4_29 s5_29 s6_29 s7_29 s23_29 hsxo_29 hoxo_29
 refine tail_put rfl rfl hN_30 hD_30 (by decide) (does_append (T := W32) (base := w0.heap.size) (xs := acc) (ys := [((((((((0 : UInt32) * (256 : UInt32) : UInt32) + (UInt32.ofNat (d).toNat : UInt32) : UInt32) * (256 : UInt32) : UInt32) + (UInt32.ofNat (c).toNat : UInt32) : UInt32) * (256 : UInt32) : UInt32) + (UInt32.ofNat (b).toNat : UInt32) : UInt32) * (256 : UInt32) : UInt32) + (UInt32.ofNat (a).toNat : UInt32)]) (v := xo) app_70 s35_30 hoxo_30 (SlT.at s37_30 hsx37_30) (by simp) (by simp only [List.length_append, List.length_cons, List.length_nil]; omega) (by simp only [List.length_append, List.length_cons, List.length_nil]; omega) hE_30.size' (fun x38 wd31 hX hox38_31 hk a31 hN_31 hD_31 hv hO => ?_))
 have hE_31 := hE_30.since hX (fun b hb => Nat.le_trans (Nat.le_refl _) (OwnT.block_lt hoxo_30 hb).1)
 have hox37_31 := OwnT.ext hox37_30 hX (fun k hk e => no_x37_xo k hk e)
 have no_x38_x37 : ∀ k, x38.ownBlock = some k → x37.ownBlock ≠ some k := fun k e e' => (hk k e).elim (fun h => no_x37_xo k e' h) (fun h => Nat.lt_irrefl _ (Nat.lt_of_lt_of_le (OwnT.block_lt hox37_30 e').2 h))
 have hsx37_31 := hox37_31.sl.wide (Nat.zero_le _) (.inl rfl)
 have hsx38_31 := hox38_31.sl.wide (Nat.zero_le _) (.inl rfl)
 rw [word_mul] at hox38_31 hsx38_31
 have s38_31 := hv
 have s0_31 := (hO 0 rfl).trans s0_30
 have s4_31 := (hO 4 rfl).trans s4_30
 have s5_31 := (hO 5 rfl).trans s5_30
 clear hO hv hX hk hN_30 hD_30 hE_30 hox37_30 s0_30 s4_30 s5_30 s35_30 s37_30
 refine tail_put rfl rfl hN_31 hD_31 (by decide) (does_assign (V := x38) s38_31 (fun a32 hN_32 hD_32 hv hO => ?_))
 have s4_32 := hv
 have s0_32 := (hO 0 rfl).trans s0_31
 have s5_32 := (hO 5 rfl).trans s5_31
 clear hO hv hN_31 hD_31 s0_31 s5_31 s38_31 s4_31
 refine tail_nil ?_
 refine region_lex [] [(20, Pr.ex (i64 ((i : Nat) : Int))), (21, Pr.ex (i64 ((i + 4 : Nat) : Int)))] 2 hN_32 hD_32 (by kernel_rfl) (by kernel_rfl) ?_ ?_
 refine Asks.cons ?_ (Asks.cons ?_ (Asks.zero _))
 exact Ask.plain rfl rfl fun aq wq hNq hO hR hT => does_move (V := i64 ((i : Nat) : Int)) ((hO 5 rfl).trans s5_32) ⟨Ext.refl _, rfl⟩
 exact Ask.plain rfl rfl fun aq wq hNq hO hR hT => does_add (a := ((i : Nat) : Int)) (b := ((4 : Nat) : Int)) (r := ((i + 4 : Nat) : Int)) (hT 20 rfl rfl) rfl (by omega) (by omega) (by omega) ⟨Ext.refl _, rfl⟩
 intro a33 wd33 hN_33 hD_33 hO hR hA hU
 obtain ⟨_, t21, _⟩ := hA
 have hE_33 := hE_31.trans hR
 have s0_33 := (hO 0 rfl).trans s0_32
 have s4_33 := (hO 4 rfl).trans s4_32
 have s5_33 := (hO 5 rfl).trans s5_32
 have hsx37_33 := hsx37_31.ext' hR
 have hsx38_33 := hsx38_31.ext' hR
 have hox37_33 := hox37_31.ext' hR
 have hox38_33 := hox38_31.ext' hR
 have s21_33 : get a33 21 = i64 ((i + 4 : Nat) : Int) := t21
 clear hE_31 hN_32 hD_32 s0_32 s4_32 s5_32 hsx37_31 hsx38_31 hox37_31 hox38_31
 refine tail_put rfl rfl hN_33 hD_33 (by decide) (does_assign (V := i64 ((i + 4 : Nat) : Int)) s21_33 (fun a34 hN_34 hD_34 hv hO => ?_))
 have s5_34 := hv
 have s0_34 := (hO 0 rfl).trans s0_33
 have s4_34 := (hO 4 rfl).trans s4_33
 clear hO hv hN_33 hD_33 s0_33 s4_33 s21_33 s5_33
 refine tail_nil ?_
 exact ⟨_, by omega, i + 4, (acc ++ [word a b c d]), x38, rfl, hN_34, hD_34, s0_34, s4_34, s5_34, hE_33, hox38_33, by rw [← hm, words_step hm4, List.append_assoc, drop_four hm4]; rfl, by omega, by omega, by simp only [List.length_append, List.length_cons, List.length_nil]; omega⟩
 have hc1 := of_decide_eq_false hc1
 refine wp_exit ?_
 refine wp_seq ?_
 refine region_lex [] [(39, Pr.ex (xo)), (2, Pr.ex (xo)), (3, Pr.ex (i64 ((0 : Nat) : Int)))] 3 hN_6 hD_6 (by kernel_rfl) (by kernel_rfl) ?_ ?_
 refine Asks.cons ?_ (Asks.cons ?_ (Asks.cons ?_ (Asks.zero _)))
 exact Ask.plain rfl rfl fun aq wq hNq hO hR hT => does_move (V := xo) ((hO 4 rfl).trans s4_6) ⟨Ext.refl _, rfl⟩
 exact Ask.plain rfl rfl fun aq wq hNq hO hR hT => does_assign (V := xo) (hT 39 rfl rfl) ⟨Ext.refl _, rfl⟩
 exact Ask.plain rfl rfl fun aq wq hNq hO hR hT => does_assign (V := i64 ((0 : Nat) : Int)) rfl ⟨Ext.refl _, rfl⟩
 intro a35 wd35 hN_35 hD_35 hO hR hA hU
 obtain ⟨_, t2, t3, _⟩ := hA
 have hE_35 := hE_6.trans hR
 have hsxo_35 := hsxo_6.ext' hR
 have hoxo_35 := hoxo_6.ext' hR
 have s2_35 : get a35 2 = xo := t2
 have s3_35 : get a35 3 = i64 ((0 : Nat) : Int) := t3
 clear hE_6 hN_6 hD_6 s0_6 s4_6 s5_6 s19_6 hsxo_6 hoxo_6
 refine tail_nil ?_
 refine wp_ret ?_
 refine res_two (V1 := xo) (V2 := i64 ((0 : Nat) : Int)) rfl hD_35 s2_35 s3_35 ?_
 have hz : s.drop i = [] := List.drop_eq_nil_of_le (by omega)
 rw [hz, words_nil (m := []) rfl, List.append_nil] at hm
 have ho := hoxo_35
 rw [hm] at ho
 exact ⟨⟨_, _, rfl, ho, rfl⟩, hE_35⟩

theorem of_ (s : List UInt8) (w0 : World) (hL : Laid w0) (hn : s.length ≤ 65536) :
    Gives Tryd.prog 44 #[str (s)] w0 (Pr.ex (Dg.val (of s))) := by
 refine enter (N := 37) Tryd.func44 rfl rfl ?_
 intro a0 hN_0 hD_0 hA
 have s0_0 : get a0 0 = str (s) := hA 0 _ rfl
 clear hA
 have hE_0 : Ext w0 w0 := Ext.refl w0
 refine wp_seq ?_
 refine region_lex [2] [(2, Pr.box' w0.heap.size 24 [w32 (Dg.zero).a, w32 (Dg.zero).b, w32 (Dg.zero).c, w32 (Dg.zero).d])] 1 hN_0 hD_0 (by kernel_rfl) (by kernel_rfl) ?_ ?_
 refine Asks.cons ?_ (Asks.zero _)
 refine Ask.fresh rfl rfl ?_
 intro aq wq hNq hO hR hT
 exact does_alloc zero_24 (fun b w2 he hlo hb => ⟨he, ⟨b, rfl, Nat.le_trans hR.size' hlo, hb⟩, ⟨b, rfl, hlo, hb.lt⟩⟩)
 intro a1 wd1 hN_1 hD_1 hO hR hA hU
 obtain ⟨t2, _⟩ := hA
 have hE_1 := hE_0.trans hR
 have s0_1 := (hO 0 rfl).trans s0_0
 obtain ⟨b2, s2_1, lo_b2, hbb2_1⟩ := t2
 have fr_b2 : w0.heap.size ≤ b2 := Nat.le_trans hE_0.size' lo_b2
 clear hE_0 hN_0 hD_0 s0_0
 refine tail_nil ?_
 refine wp_seq ?_
 refine region_lex [] [(8, Pr.ex (str (s))), (9, Pr.ex (i64 ((s.length : Nat) : Int))), (10, Pr.ex (w64 (UInt64.ofNat s.length))), (3, Pr.ex (w64 (UInt64.ofNat s.length)))] 4 hN_1 hD_1 (by kernel_rfl) (by kernel_rfl) ?_ ?_
 refine Asks.cons ?_ (Asks.cons ?_ (Asks.cons ?_ (Asks.cons ?_ (Asks.zero _))))
 exact Ask.plain rfl rfl fun aq wq hNq hO hR hT => does_move (V := str (s)) ((hO 0 rfl).trans s0_1) ⟨Ext.refl _, rfl⟩
 exact Ask.plain rfl rfl fun aq wq hNq hO hR hT => does_lenStr (l := s) Tryd.underlying9 (hT 8 rfl rfl) ⟨Ext.refl _, rfl⟩
 exact Ask.plain rfl rfl fun aq wq hNq hO hR hT => does_conv ⟨_, Tryd.underlying3⟩ Tryd.underlying80 (hT 9 rfl rfl) (wrap_u64 _) ⟨Ext.refl _, rfl⟩
 exact Ask.plain rfl rfl fun aq wq hNq hO hR hT => does_assign (V := w64 (UInt64.ofNat s.length)) (hT 10 rfl rfl) ⟨Ext.refl _, rfl⟩
 intro a2 wd2 hN_2 hD_2 hO hR hA hU
 obtain ⟨_, _, _, t3, _⟩ := hA
 have hE_2 := hE_1.trans hR
 have s0_2 := (hO 0 rfl).trans s0_1
 have s2_2 := (hO 2 rfl).trans s2_1
 have hbb2_2 := hbb2_1.ext' hR
 have s3_2 : get a2 3 = w64 (UInt64.ofNat s.length) := t3
 clear hE_1 hN_1 hD_1 s0_1 s2_1 hbb2_1
 refine tail_nil ?_
 refine wp_seq ?_
 refine region_lex [] [(11, Pr.ex (str (s))), (12, Pr.ex (i64 ((s.length : Nat) : Int))), (13, Pr.ex (i64 ((s.length + 1 : Nat) : Int))), (14, Pr.ex (i64 (((s.length + 1) % 16 : Nat) : Int))), (15, Pr.ex (i64 ((24 - ((s.length + 1) % 16) : Nat) : Int))), (16, Pr.ex (i64 (((24 - ((s.length + 1) % 16)) % 16 : Nat) : Int))), (4, Pr.ex (i64 (((24 - ((s.length + 1) % 16)) % 16 : Nat) : Int)))] 7 hN_2 hD_2 (by kernel_rfl) (by kernel_rfl) ?_ ?_
 refine Asks.cons ?_ (Asks.cons ?_ (Asks.cons ?_ (Asks.cons ?_ (Asks.cons ?_ (Asks.cons ?_ (Asks.cons ?_ (Asks.zero _)))))))
 exact Ask.plain rfl rfl fun aq wq hNq hO hR hT => does_move (V := str (s)) ((hO 0 rfl).trans s0_2) ⟨Ext.refl _, rfl⟩
 exact Ask.plain rfl rfl fun aq wq hNq hO hR hT => does_lenStr (l := s) Tryd.underlying9 (hT 11 rfl rfl) ⟨Ext.refl _, rfl⟩
 exact Ask.plain rfl rfl fun aq wq hNq hO hR hT => does_add (a := ((s.length : Nat) : Int)) (b := ((1 : Nat) : Int)) (r := ((s.length + 1 : Nat) : Int)) (hT 12 rfl rfl) rfl (by omega) (by omega) (by omega) ⟨Ext.refl _, rfl⟩
 exact Ask.plain rfl rfl fun aq wq hNq hO hR hT => does_rem (k := .i64) (a := ((s.length + 1 : Nat) : Int)) (b := ((16 : Nat) : Int)) (r := (((s.length + 1) % 16 : Nat) : Int)) (hT 13 rfl rfl) rfl (by omega) (by omega) (by omega) ⟨Ext.refl _, rfl⟩
 exact Ask.plain rfl rfl fun aq wq hNq hO hR hT => does_sub (a := ((24 : Nat) : Int)) (b := (((s.length + 1) % 16 : Nat) : Int)) (r := ((24 - ((s.length + 1) % 16) : Nat) : Int)) rfl (hT 14 rfl rfl) (by omega) (by omega) (by omega) ⟨Ext.refl _, rfl⟩
 exact Ask.plain rfl rfl fun aq wq hNq hO hR hT => does_rem (k := .i64) (a := ((24 - ((s.length + 1) % 16) : Nat) : Int)) (b := ((16 : Nat) : Int)) (r := (((24 - ((s.length + 1) % 16)) % 16 : Nat) : Int)) (hT 15 rfl rfl) rfl (by omega) (by omega) (by omega) ⟨Ext.refl _, rfl⟩
 exact Ask.plain rfl rfl fun aq wq hNq hO hR hT => does_assign (V := i64 (((24 - ((s.length + 1) % 16)) % 16 : Nat) : Int)) (hT 16 rfl rfl) ⟨Ext.refl _, rfl⟩
 intro a3 wd3 hN_3 hD_3 hO hR hA hU
 obtain ⟨_, _, _, _, _, _, t4, _⟩ := hA
 have hE_3 := hE_2.trans hR
 have s0_3 := (hO 0 rfl).trans s0_2
 have s2_3 := (hO 2 rfl).trans s2_2
 have s3_3 := (hO 3 rfl).trans s3_2
 have hbb2_3 := hbb2_2.ext' hR
 have s4_3 : get a3 4 = i64 (((24 - ((s.length + 1) % 16)) % 16 : Nat) : Int) := t4
 clear hE_2 hN_2 hD_2 s0_2 s2_2 s3_2 hbb2_2
 refine tail_nil ?_
 refine wp_seq ?_
 refine region_lex [] [(17, Pr.ex (str (s))), (18, Pr.ex (str (s ++ (([128] : List UInt8))))), (19, Pr.ex (i64 (((24 - ((s.length + 1) % 16)) % 16 : Nat) : Int))), (20, Pr.ex (str (List.replicate ((24 - ((s.length + 1) % 16)) % 16) (0 : UInt8)))), (21, Pr.ex (str ((s ++ (([128] : List UInt8))) ++ (List.replicate ((24 - ((s.length + 1) % 16)) % 16) (0 : UInt8))))), (22, Pr.ex (w64 (UInt64.ofNat s.length))), (23, Pr.ex (w32 ((UInt64.ofNat s.length).toUInt32))), (24, Pr.ex (w64 (UInt64.ofNat s.length))), (25, Pr.ex (w64 (UInt64.ofNat ((UInt64.ofNat s.length).toNat / 2 ^ 32)))), (26, Pr.ex (w32 ((UInt64.ofNat ((UInt64.ofNat s.length).toNat / 2 ^ 32)).toUInt32))), (27, Pr.own' W32 wd3.heap.size 22 ([(UInt64.ofNat s.length).toUInt32, (UInt64.ofNat ((UInt64.ofNat s.length).toNat / 2 ^ 32)).toUInt32])), (28, Pr.ex (str (wbytes [(UInt64.ofNat s.length).toUInt32, (UInt64.ofNat ((UInt64.ofNat s.length).toNat / 2 ^ 32)).toUInt32]))), (29, Pr.ex (str (((s ++ (([128] : List UInt8))) ++ (List.replicate ((24 - ((s.length + 1) % 16)) % 16) (0 : UInt8))) ++ (wbytes [(UInt64.ofNat s.length).toUInt32, (UInt64.ofNat ((UInt64.ofNat s.length).toNat / 2 ^ 32)).toUInt32])))), (5, Pr.ex (str (((s ++ (([128] : List UInt8))) ++ (List.replicate ((24 - ((s.length + 1) % 16)) % 16) (0 : UInt8))) ++ (wbytes [(UInt64.ofNat s.length).toUInt32, (UInt64.ofNat ((UInt64.ofNat s.length).toNat / 2 ^ 32)).toUInt32]))))] 14 hN_3 hD_3 (by kernel_rfl) (by kernel_rfl) ?_ ?_
 refine Asks.cons ?_ (Asks.cons ?_ (Asks.cons ?_ (Asks.cons ?_ (Asks.cons ?_ (Asks.cons ?_ (Asks.cons ?_ (Asks.cons ?_ (Asks.cons ?_ (Asks.cons ?_ (Asks.cons ?_ (Asks.cons ?_ (Asks.cons ?_ (Asks.cons ?_ (Asks.zero _))))))))))))))
 exact Ask.plain rfl rfl fun aq wq hNq hO hR hT => does_move (V := str (s)) ((hO 0 rfl).trans s0_3) ⟨Ext.refl _, rfl⟩
 exact Ask.plain rfl rfl fun aq wq hNq hO hR hT => does_cat (a := s) (b := ([128] : List UInt8)) (hT 17 rfl rfl) rfl (by simp only [List.length_append, List.length_cons, List.length_nil, List.length_replicate, bytes_length]; omega) ⟨Ext.refl _, rfl⟩
 exact Ask.plain rfl rfl fun aq wq hNq hO hR hT => does_move (V := i64 (((24 - ((s.length + 1) % 16)) % 16 : Nat) : Int)) ((hO 4 rfl).trans s4_3) ⟨Ext.refl _, rfl⟩
 exact Ask.plain rfl rfl fun aq wq hNq hO hR hT => does_ret (vs := #[str (([0] : List UInt8)), i64 (((24 - ((s.length + 1) % 16)) % 16 : Nat) : Int)]) call_59 (args2 rfl (hT 19 rfl rfl)) rfl ((repeat_ ((24 - ((s.length + 1) % 16)) % 16) wq (by omega)).mono fun v w2 h => ⟨h.2, h.1⟩)
 exact Ask.plain rfl rfl fun aq wq hNq hO hR hT => does_cat (a := s ++ (([128] : List UInt8))) (b := List.replicate ((24 - ((s.length + 1) % 16)) % 16) (0 : UInt8)) (hT 18 rfl rfl) (hT 20 rfl rfl) (by simp only [List.length_append, List.length_cons, List.length_nil, List.length_replicate, bytes_length]; omega) ⟨Ext.refl _, rfl⟩
 exact Ask.plain rfl rfl fun aq wq hNq hO hR hT => does_move (V := w64 (UInt64.ofNat s.length)) ((hO 3 rfl).trans s3_3) ⟨Ext.refl _, rfl⟩
 exact Ask.plain rfl rfl fun aq wq hNq hO hR hT => does_conv ⟨_, Tryd.underlying80⟩ Tryd.underlying22 (hT 22 rfl rfl) (conv_64_32 _) ⟨Ext.refl _, rfl⟩
 exact Ask.plain rfl rfl fun aq wq hNq hO hR hT => does_move (V := w64 (UInt64.ofNat s.length)) ((hO 3 rfl).trans s3_3) ⟨Ext.refl _, rfl⟩
 exact Ask.plain rfl rfl fun aq wq hNq hO hR hT => does_shr64 (a := UInt64.ofNat s.length) (b := 32) (hT 24 rfl rfl) rfl (by decide) ⟨Ext.refl _, rfl⟩
 exact Ask.plain rfl rfl fun aq wq hNq hO hR hT => does_conv ⟨_, Tryd.underlying80⟩ Tryd.underlying22 (hT 25 rfl rfl) (conv_64_32 _) ⟨Ext.refl _, rfl⟩
 exact Ask.plain rfl rfl fun aq wq hNq hO hR hT => does_sliceN (T := W32) (xs := [(UInt64.ofNat s.length).toUInt32, (UInt64.ofNat ((UInt64.ofNat s.length).toNat / 2 ^ 32)).toUInt32]) (vs := [w32 ((UInt64.ofNat s.length).toUInt32), w32 ((UInt64.ofNat ((UInt64.ofNat s.length).toNat / 2 ^ 32)).toUInt32)]) app_70 rfl (parts2 (hT 23 rfl rfl) (hT 26 rfl rfl)) rfl (by decide) (by decide) rfl (fun v w2 he _ ho => ⟨he, OwnT.base ho hR.size'⟩)
 exact Ask.plain rfl rfl fun aq wq hNq hO hR hT => does_ret (vs := #[get aq 27]) call_56 (args1 rfl) rfl ((bytes_ ([(UInt64.ofNat s.length).toUInt32, (UInt64.ofNat ((UInt64.ofNat s.length).toNat / 2 ^ 32)).toUInt32]) (get aq 27) wq (((OwnT.sl (hT 27 rfl rfl)).wide (Nat.zero_le _) (.inl rfl)).wide (Nat.zero_le _) (.inl rfl)) (by simp)).mono fun v w2 h => ⟨h.2, h.1⟩)
 exact Ask.plain rfl rfl fun aq wq hNq hO hR hT => does_cat (a := (s ++ (([128] : List UInt8))) ++ (List.replicate ((24 - ((s.length + 1) % 16)) % 16) (0 : UInt8))) (b := wbytes [(UInt64.ofNat s.length).toUInt32, (UInt64.ofNat ((UInt64.ofNat s.length).toNat / 2 ^ 32)).toUInt32]) (hT 21 rfl rfl) (hT 28 rfl rfl) (by simp only [List.length_append, List.length_cons, List.length_nil, List.length_replicate, bytes_length]; omega) ⟨Ext.refl _, rfl⟩
 exact Ask.plain rfl rfl fun aq wq hNq hO hR hT => does_assign (V := str (((s ++ (([128] : List UInt8))) ++ (List.replicate ((24 - ((s.length + 1) % 16)) % 16) (0 : UInt8))) ++ (wbytes [(UInt64.ofNat s.length).toUInt32, (UInt64.ofNat ((UInt64.ofNat s.length).toNat / 2 ^ 32)).toUInt32]))) (hT 29 rfl rfl) ⟨Ext.refl _, rfl⟩
 intro a4 wd4 hN_4 hD_4 hO hR hA hU
 obtain ⟨_, _, _, _, _, _, _, _, _, _, _, _, _, t5, _⟩ := hA
 have hE_4 := hE_3.trans hR
 have s2_4 := (hO 2 rfl).trans s2_3
 have hbb2_4 := hbb2_3.ext' hR
 have s5_4 : get a4 5 = str (((s ++ (([128] : List UInt8))) ++ (List.replicate ((24 - ((s.length + 1) % 16)) % 16) (0 : UInt8))) ++ (wbytes [(UInt64.ofNat s.length).toUInt32, (UInt64.ofNat ((UInt64.ofNat s.length).toNat / 2 ^ 32)).toUInt32])) := t5
 clear hE_3 hN_3 hD_3 s0_3 s2_3 s3_3 s4_3 hbb2_3
 refine tail_nil ?_
 refine wp_seq ?_
 refine region_lex [] [(31, Pr.ex (str (((s ++ (([128] : List UInt8))) ++ (List.replicate ((24 - ((s.length + 1) % 16)) % 16) (0 : UInt8))) ++ (wbytes [(UInt64.ofNat s.length).toUInt32, (UInt64.ofNat ((UInt64.ofNat s.length).toNat / 2 ^ 32)).toUInt32])))), (32, Pr.t2 (Pr.own' W32 wd4.heap.size 22 (words (((s ++ (([128] : List UInt8))) ++ (List.replicate ((24 - ((s.length + 1) % 16)) % 16) (0 : UInt8))) ++ (wbytes [(UInt64.ofNat s.length).toUInt32, (UInt64.ofNat ((UInt64.ofNat s.length).toNat / 2 ^ 32)).toUInt32])))) (Pr.ex (i64 ((0 : Nat) : Int)))), (30, Pr.t2 (Pr.own' W32 wd4.heap.size 22 (words (((s ++ (([128] : List UInt8))) ++ (List.replicate ((24 - ((s.length + 1) % 16)) % 16) (0 : UInt8))) ++ (wbytes [(UInt64.ofNat s.length).toUInt32, (UInt64.ofNat ((UInt64.ofNat s.length).toNat / 2 ^ 32)).toUInt32])))) (Pr.ex (i64 ((0 : Nat) : Int)))), (33, Pr.own' W32 wd4.heap.size 22 (words (((s ++ (([128] : List UInt8))) ++ (List.replicate ((24 - ((s.length + 1) % 16)) % 16) (0 : UInt8))) ++ (wbytes [(UInt64.ofNat s.length).toUInt32, (UInt64.ofNat ((UInt64.ofNat s.length).toNat / 2 ^ 32)).toUInt32])))), (34, Pr.ex (i64 ((0 : Nat) : Int))), (6, Pr.own' W32 wd4.heap.size 22 (words (((s ++ (([128] : List UInt8))) ++ (List.replicate ((24 - ((s.length + 1) % 16)) % 16) (0 : UInt8))) ++ (wbytes [(UInt64.ofNat s.length).toUInt32, (UInt64.ofNat ((UInt64.ofNat s.length).toNat / 2 ^ 32)).toUInt32])))), (7, Pr.ex (i64 ((0 : Nat) : Int)))] 7 hN_4 hD_4 (by kernel_rfl) (by kernel_rfl) ?_ ?_
 refine Asks.cons ?_ (Asks.cons ?_ (Asks.cons ?_ (Asks.cons ?_ (Asks.cons ?_ (Asks.cons ?_ (Asks.cons ?_ (Asks.zero _)))))))
 exact Ask.plain rfl rfl fun aq wq hNq hO hR hT => does_move (V := str (((s ++ (([128] : List UInt8))) ++ (List.replicate ((24 - ((s.length + 1) % 16)) % 16) (0 : UInt8))) ++ (wbytes [(UInt64.ofNat s.length).toUInt32, (UInt64.ofNat ((UInt64.ofNat s.length).toNat / 2 ^ 32)).toUInt32]))) ((hO 5 rfl).trans s5_4) ⟨Ext.refl _, rfl⟩
 exact Ask.plain rfl rfl fun aq wq hNq hO hR hT => does_ret (vs := #[str (((s ++ (([128] : List UInt8))) ++ (List.replicate ((24 - ((s.length + 1) % 16)) % 16) (0 : UInt8))) ++ (wbytes [(UInt64.ofNat s.length).toUInt32, (UInt64.ofNat ((UInt64.ofNat s.length).toNat / 2 ^ 32)).toUInt32]))]) call_60 (args1 (hT 31 rfl rfl)) rfl ((words_ (((s ++ (([128] : List UInt8))) ++ (List.replicate ((24 - ((s.length + 1) % 16)) % 16) (0 : UInt8))) ++ (wbytes [(UInt64.ofNat s.length).toUInt32, (UInt64.ofNat ((UInt64.ofNat s.length).toNat / 2 ^ 32)).toUInt32])) wq (full4 s _ _) (fullN s _ _ hn)).mono fun v w2 h => ⟨h.2, by obtain ⟨x0, x1, hv, k0, k1⟩ := h.1; exact ⟨x0, x1, hv, OwnT.base k0 hR.size', k1⟩⟩)
 exact Ask.plain rfl rfl fun aq wq hNq hO hR hT => does_move rfl ⟨Ext.refl _, (hT 32 rfl rfl)⟩
 exact Ask.plain rfl rfl fun aq wq hNq hO hR hT => by
  obtain ⟨x0, x1, hv, k0, k1⟩ := (hT 30 rfl rfl)
  exact does_extract hv rfl ⟨Ext.refl _, k0⟩
 exact Ask.plain rfl rfl fun aq wq hNq hO hR hT => by
  obtain ⟨x0, x1, hv, k0, k1⟩ := (hT 30 rfl rfl)
  exact does_extract (V := i64 ((0 : Nat) : Int)) hv (by rw [show x1 = i64 ((0 : Nat) : Int) from k1]; rfl) ⟨Ext.refl _, rfl⟩
 exact Ask.plain rfl rfl fun aq wq hNq hO hR hT => does_assign rfl ⟨Ext.refl _, (hT 33 rfl rfl)⟩
 exact Ask.plain rfl rfl fun aq wq hNq hO hR hT => does_assign (V := i64 ((0 : Nat) : Int)) (hT 34 rfl rfl) ⟨Ext.refl _, rfl⟩
 intro a5 wd5 hN_5 hD_5 hO hR hA hU
 obtain ⟨_, _, _, _, _, t6, _, _⟩ := hA
 have hE_5 := hE_4.trans hR
 have s2_5 := (hO 2 rfl).trans s2_4
 have hbb2_5 := hbb2_4.ext' hR
 obtain ⟨x6, s6_5⟩ : ∃ x, get a5 6 = x := ⟨_, rfl⟩
 replace t6 : OwnT W32 wd4.heap.size 22 (words (((s ++ (([128] : List UInt8))) ++ (List.replicate ((24 - ((s.length + 1) % 16)) % 16) (0 : UInt8))) ++ (wbytes [(UInt64.ofNat s.length).toUInt32, (UInt64.ofNat ((UInt64.ofNat s.length).toNat / 2 ^ 32)).toUInt32]))) x6 wd5 := by rw [← s6_5]; exact t6
 have nbo_x6_b2 : x6.ownBlock ≠ some b2 := fun e => Nat.lt_irrefl _ (Nat.lt_of_lt_of_le hbb2_4.lt (OwnT.block_lt t6 e).1)
 have hsx6_5 := t6.sl.wide (Nat.zero_le _) (.inl rfl)
 have hox6_5 := OwnT.base t6 hE_4.size'
 clear hE_4 hN_4 hD_4 s2_4 s5_4 hbb2_4
 refine tail_nil ?_
 refine wp_seq ?_
 refine region_lex [] [(35, Pr.ex (x6)), (36, Pr.ex (Dg.val (((St.first 1).takes (words (((s ++ (([128] : List UInt8))) ++ (List.replicate ((24 - ((s.length + 1) % 16)) % 16) (0 : UInt8))) ++ (wbytes [(UInt64.ofNat s.length).toUInt32, (UInt64.ofNat ((UInt64.ofNat s.length).toNat / 2 ^ 32)).toUInt32])))).out)))] 2 hN_5 hD_5 (by kernel_rfl) (by kernel_rfl) ?_ ?_
 refine Asks.cons ?_ (Asks.cons ?_ (Asks.zero _))
 exact Ask.plain rfl rfl fun aq wq hNq hO hR hT => does_move (V := x6) ((hO 6 rfl).trans s6_5) ⟨Ext.refl _, rfl⟩
 exact Ask.plain rfl rfl fun aq wq hNq hO hR hT => does_ret (vs := #[w32 (1), x6]) call_61 (args2 rfl (hT 35 rfl rfl)) rfl ((take (1) (words (((s ++ (([128] : List UInt8))) ++ (List.replicate ((24 - ((s.length + 1) % 16)) % 16) (0 : UInt8))) ++ (wbytes [(UInt64.ofNat s.length).toUInt32, (UInt64.ofNat ((UInt64.ofNat s.length).toNat / 2 ^ 32)).toUInt32]))) (x6) wq (hL.ext (hE_5.trans hR)) ((hsx6_5.ext' hR).wide (Nat.zero_le _) (.inl rfl))).mono fun v w2 h => ⟨h.2, h.1⟩)
 intro a6 wd6 hN_6 hD_6 hO hR hA hU
 obtain ⟨_, t36, _⟩ := hA
 have hE_6 := hE_5.trans hR
 have s2_6 := (hO 2 rfl).trans s2_5
 have hbb2_6 := hbb2_5.ext' hR
 have hsx6_6 := hsx6_5.ext' hR
 have hox6_6 := hox6_5.ext' hR
 have s36_6 : get a6 36 = Dg.val (((St.first 1).takes (words (((s ++ (([128] : List UInt8))) ++ (List.replicate ((24 - ((s.length + 1) % 16)) % 16) (0 : UInt8))) ++ (wbytes [(UInt64.ofNat s.length).toUInt32, (UInt64.ofNat ((UInt64.ofNat s.length).toNat / 2 ^ 32)).toUInt32])))).out) := t36
 clear hE_5 hN_5 hD_5 s2_5 s6_5 hbb2_5 hsx6_5 hox6_5
 refine tail_none rfl rfl (does_storeD (o := 0) (n := 4) (cs' := [w32 (((St.first 1).takes (words (((s ++ (([128] : List UInt8))) ++ (List.replicate ((24 - ((s.length + 1) % 16)) % 16) (0 : UInt8))) ++ (wbytes [(UInt64.ofNat s.length).toUInt32, (UInt64.ofNat ((UInt64.ofNat s.length).toNat / 2 ^ 32)).toUInt32])))).out).a, w32 (((St.first 1).takes (words (((s ++ (([128] : List UInt8))) ++ (List.replicate ((24 - ((s.length + 1) % 16)) % 16) (0 : UInt8))) ++ (wbytes [(UInt64.ofNat s.length).toUInt32, (UInt64.ofNat ((UInt64.ofNat s.length).toNat / 2 ^ 32)).toUInt32])))).out).b, w32 (((St.first 1).takes (words (((s ++ (([128] : List UInt8))) ++ (List.replicate ((24 - ((s.length + 1) % 16)) % 16) (0 : UInt8))) ++ (wbytes [(UInt64.ofNat s.length).toUInt32, (UInt64.ofNat ((UInt64.ofNat s.length).toNat / 2 ^ 32)).toUInt32])))).out).c, w32 (((St.first 1).takes (words (((s ++ (([128] : List UInt8))) ++ (List.replicate ((24 - ((s.length + 1) % 16)) % 16) (0 : UInt8))) ++ (wbytes [(UInt64.ofNat s.length).toUInt32, (UInt64.ofNat ((UInt64.ofNat s.length).toNat / 2 ^ 32)).toUInt32])))).out).d]) (V := Dg.val (((St.first 1).takes (words (((s ++ (([128] : List UInt8))) ++ (List.replicate ((24 - ((s.length + 1) % 16)) % 16) (0 : UInt8))) ++ (wbytes [(UInt64.ofNat s.length).toUInt32, (UInt64.ofNat ((UInt64.ofNat s.length).toNat / 2 ^ 32)).toUInt32])))).out)) s2_6 s36_6 hbb2_6 (Nat.le_of_ble_eq_true rfl) rfl siz_24 rfl rfl (fun wd7 hX hz hbb2_7 => ?_))
 have hE_7 := hE_6.since hX (fun k e => e ▸ fr_b2)
 have hsx6_7 := SlT.over hsx6_6 hX (fun _ => nbo_x6_b2)
 have hox6_7 := OwnT.ext hox6_6 hX (fun k hk e => nbo_x6_b2 (e ▸ hk))
 clear hX hz hE_6 hbb2_6 hsx6_6 hox6_6
 refine tail_nil ?_
 refine wp_ret ?_
 refine res_one (V := Dg.val (((St.first 1).takes (words (((s ++ (([128] : List UInt8))) ++ (List.replicate ((24 - ((s.length + 1) % 16)) % 16) (0 : UInt8))) ++ (wbytes [(UInt64.ofNat s.length).toUInt32, (UInt64.ofNat ((UInt64.ofNat s.length).toNat / 2 ^ 32)).toUInt32])))).out)) rfl hD_6 (ResIs.cell s2_6 hbb2_7 row_24 rfl rfl) ?_
 exact ⟨by show Dg.val _ = Dg.val _; rw [of_eq s hn], hE_7⟩

theorem ofR (s : List UInt8) (w0 : World) (hn : s.length ≤ 65536) :
    Gives Tryd.prog 42 #[str (s)] w0 (Pr.ex (Dg.val (of s))) := by
 refine enter (N := 70) Tryd.func42 rfl rfl ?_
 intro a0 hN_0 hD_0 hA
 have s0_0 : get a0 0 = str (s) := hA 0 _ rfl
 clear hA
 have hE_0 : Ext w0 w0 := Ext.refl w0
 refine wp_seq ?_
 refine region_lex [2] [(2, Pr.box' w0.heap.size 24 [w32 (Dg.zero).a, w32 (Dg.zero).b, w32 (Dg.zero).c, w32 (Dg.zero).d])] 1 hN_0 hD_0 (by kernel_rfl) (by kernel_rfl) ?_ ?_
 refine Asks.cons ?_ (Asks.zero _)
 refine Ask.fresh rfl rfl ?_
 intro aq wq hNq hO hR hT
 exact does_alloc zero_24 (fun b w2 he hlo hb => ⟨he, ⟨b, rfl, Nat.le_trans hR.size' hlo, hb⟩, ⟨b, rfl, hlo, hb.lt⟩⟩)
 intro a1 wd1 hN_1 hD_1 hO hR hA hU
 obtain ⟨t2, _⟩ := hA
 have hE_1 := hE_0.trans hR
 have s0_1 := (hO 0 rfl).trans s0_0
 obtain ⟨b2, s2_1, lo_b2, hbb2_1⟩ := t2
 have fr_b2 : w0.heap.size ≤ b2 := Nat.le_trans hE_0.size' lo_b2
 clear hE_0 hN_0 hD_0 s0_0
 refine tail_nil ?_
 refine wp_seq ?_
 refine region_lex [] [(8, Pr.ex (str (s))), (9, Pr.ex (i64 ((s.length : Nat) : Int))), (10, Pr.ex (w64 (UInt64.ofNat s.length))), (3, Pr.ex (w64 (UInt64.ofNat s.length)))] 4 hN_1 hD_1 (by kernel_rfl) (by kernel_rfl) ?_ ?_
 refine Asks.cons ?_ (Asks.cons ?_ (Asks.cons ?_ (Asks.cons ?_ (Asks.zero _))))
 exact Ask.plain rfl rfl fun aq wq hNq hO hR hT => does_move (V := str (s)) ((hO 0 rfl).trans s0_1) ⟨Ext.refl _, rfl⟩
 exact Ask.plain rfl rfl fun aq wq hNq hO hR hT => does_lenStr (l := s) Tryd.underlying9 (hT 8 rfl rfl) ⟨Ext.refl _, rfl⟩
 exact Ask.plain rfl rfl fun aq wq hNq hO hR hT => does_conv ⟨_, Tryd.underlying3⟩ Tryd.underlying80 (hT 9 rfl rfl) (wrap_u64 _) ⟨Ext.refl _, rfl⟩
 exact Ask.plain rfl rfl fun aq wq hNq hO hR hT => does_assign (V := w64 (UInt64.ofNat s.length)) (hT 10 rfl rfl) ⟨Ext.refl _, rfl⟩
 intro a2 wd2 hN_2 hD_2 hO hR hA hU
 obtain ⟨_, _, _, t3, _⟩ := hA
 have hE_2 := hE_1.trans hR
 have s0_2 := (hO 0 rfl).trans s0_1
 have s2_2 := (hO 2 rfl).trans s2_1
 have hbb2_2 := hbb2_1.ext' hR
 have s3_2 : get a2 3 = w64 (UInt64.ofNat s.length) := t3
 clear hE_1 hN_1 hD_1 s0_1 s2_1 hbb2_1
 refine tail_nil ?_
 refine wp_seq ?_
 refine region_lex [] [(11, Pr.ex (str (s))), (12, Pr.ex (str (s ++ (([128] : List UInt8)))))] 2 hN_2 hD_2 (by kernel_rfl) (by kernel_rfl) ?_ ?_
 refine Asks.cons ?_ (Asks.cons ?_ (Asks.zero _))
 exact Ask.plain rfl rfl fun aq wq hNq hO hR hT => does_move (V := str (s)) ((hO 0 rfl).trans s0_2) ⟨Ext.refl _, rfl⟩
 exact Ask.plain rfl rfl fun aq wq hNq hO hR hT => does_cat (a := s) (b := ([128] : List UInt8)) (hT 11 rfl rfl) rfl (by simp only [List.length_append, List.length_cons, List.length_nil, List.length_replicate, bytes_length]; omega) ⟨Ext.refl _, rfl⟩
 intro a3 wd3 hN_3 hD_3 hO hR hA hU
 obtain ⟨_, t12, _⟩ := hA
 have hE_3 := hE_2.trans hR
 have s0_3 := (hO 0 rfl).trans s0_2
 have s2_3 := (hO 2 rfl).trans s2_2
 have s3_3 := (hO 3 rfl).trans s3_2
 have hbb2_3 := hbb2_2.ext' hR
 have s12_3 : get a3 12 = str (s ++ (([128] : List UInt8))) := t12
 clear hE_2 hN_2 hD_2 s0_2 s2_2 s3_2 hbb2_2
 refine tail_put rfl rfl hN_3 hD_3 (by decide) (does_assign (V := str (s ++ (([128] : List UInt8)))) s12_3 (fun a4 hN_4 hD_4 hv hO => ?_))
 have s0_4 := hv
 have s2_4 := (hO 2 rfl).trans s2_3
 have s3_4 := (hO 3 rfl).trans s3_3
 clear hO hv hN_3 hD_3 s2_3 s3_3 s12_3 s0_3
 refine tail_nil ?_
 refine wp_seq ?_
 refine wp_block ?_
 refine loop_g (fun mz az wz => ∃ j : Nat, mz = zeros s.length - j ∧ (az.tmps.size = 70) ∧ (az.defers = []) ∧ (get az 0 = str ((s ++ ([128] : List UInt8)) ++ List.replicate j (0 : UInt8))) ∧ (get az 2 = Value.pointer (some ⟨b2, 0, none⟩)) ∧ (get az 3 = w64 (UInt64.ofNat s.length)) ∧ (Ext w0 wz) ∧ (Has wz b2 24 [w32 (Dg.zero).a, w32 (Dg.zero).b, w32 (Dg.zero).c, w32 (Dg.zero).d]) ∧ (j ≤ zeros s.length)) ?_ ?_
 exact ⟨_, 0, rfl, hN_4, hD_4, (by rw [show (s ++ [128]) ++ List.replicate 0 0 = s ++ [128] from List.append_nil _]; exact s0_4), s2_4, s3_4, hE_3, hbb2_3, Nat.zero_le _⟩
 rintro mz a5 wd5 ⟨j, rfl, hN_5, hD_5, s0_5, s2_5, s3_5, hE_5, hbb2_5, hj⟩
 have hlen : ((s ++ ([128] : List UInt8)) ++ List.replicate j (0 : UInt8)).length = s.length + 1 + j := by simp only [List.length_append, List.length_cons, List.length_nil, List.length_replicate]
 refine wp_seq ?_
 refine wp_seq ?_
 refine region_lex [] [(13, Pr.ex (str ((s ++ ([128] : List UInt8)) ++ List.replicate j (0 : UInt8)))), (14, Pr.ex (i64 ((((s ++ ([128] : List UInt8)) ++ List.replicate j (0 : UInt8)).length : Nat) : Int))), (15, Pr.ex (i64 (((((s ++ ([128] : List UInt8)) ++ List.replicate j (0 : UInt8)).length) % 16 : Nat) : Int))), (16, Pr.ex (Value.bool (!decide ((((((s ++ ([128] : List UInt8)) ++ List.replicate j (0 : UInt8)).length) % 16 : Nat) : Int) = ((8 : Nat) : Int)))))] 4 hN_5 hD_5 (by kernel_rfl) (by kernel_rfl) ?_ ?_
 refine Asks.cons ?_ (Asks.cons ?_ (Asks.cons ?_ (Asks.cons ?_ (Asks.zero _))))
 exact Ask.plain rfl rfl fun aq wq hNq hO hR hT => does_move (V := str ((s ++ ([128] : List UInt8)) ++ List.replicate j (0 : UInt8))) ((hO 0 rfl).trans s0_5) ⟨Ext.refl _, rfl⟩
 exact Ask.plain rfl rfl fun aq wq hNq hO hR hT => does_lenStr (l := (s ++ ([128] : List UInt8)) ++ List.replicate j (0 : UInt8)) Tryd.underlying9 (hT 13 rfl rfl) ⟨Ext.refl _, rfl⟩
 exact Ask.plain rfl rfl fun aq wq hNq hO hR hT => does_rem (k := .i64) (a := ((((s ++ ([128] : List UInt8)) ++ List.replicate j (0 : UInt8)).length : Nat) : Int)) (b := ((16 : Nat) : Int)) (r := (((((s ++ ([128] : List UInt8)) ++ List.replicate j (0 : UInt8)).length) % 16 : Nat) : Int)) (hT 14 rfl rfl) rfl (by omega) (by omega) (by omega) ⟨Ext.refl _, rfl⟩
 exact Ask.plain rfl rfl fun aq wq hNq hO hR hT => does_neq (a := (((((s ++ ([128] : List UInt8)) ++ List.replicate j (0 : UInt8)).length) % 16 : Nat) : Int)) (b := ((8 : Nat) : Int)) (hT 15 rfl rfl) rfl ⟨Ext.refl _, rfl⟩
 intro a6 wd6 hN_6 hD_6 hO hR hA hU
 obtain ⟨_, _, _, t16, _⟩ := hA
 have hE_6 := hE_5.trans hR
 have s0_6 := (hO 0 rfl).trans s0_5
 have s2_6 := (hO 2 rfl).trans s2_5
 have s3_6 := (hO 3 rfl).trans s3_5
 have hbb2_6 := hbb2_5.ext' hR
 have s16_6 : get a6 16 = Value.bool (!decide ((((((s ++ ([128] : List UInt8)) ++ List.replicate j (0 : UInt8)).length) % 16 : Nat) : Int) = ((8 : Nat) : Int))) := t16
 clear hE_5 hN_5 hD_5 s0_5 s2_5 s3_5 hbb2_5
 refine tail_nil ?_
 refine wp_if (B := !decide ((((((s ++ ([128] : List UInt8)) ++ List.replicate j (0 : UInt8)).length) % 16 : Nat) : Int) = ((8 : Nat) : Int))) s16_6 (fun hc0 => ?_) (fun hc0 => ?_)
 have hc0 := of_decide_eq_false (bn hc0)
 have hj2 : j < zeros s.length := by unfold zeros at hj ⊢; omega
 refine wp_skip ?_
 refine wp_block ?_
 refine region_lex [] [(17, Pr.ex (str ((s ++ ([128] : List UInt8)) ++ List.replicate j (0 : UInt8)))), (18, Pr.ex (str (((s ++ ([128] : List UInt8)) ++ List.replicate j (0 : UInt8)) ++ (([0] : List UInt8)))))] 2 hN_6 hD_6 (by kernel_rfl) (by kernel_rfl) ?_ ?_
 refine Asks.cons ?_ (Asks.cons ?_ (Asks.zero _))
 exact Ask.plain rfl rfl fun aq wq hNq hO hR hT => does_move (V := str ((s ++ ([128] : List UInt8)) ++ List.replicate j (0 : UInt8))) ((hO 0 rfl).trans s0_6) ⟨Ext.refl _, rfl⟩
 exact Ask.plain rfl rfl fun aq wq hNq hO hR hT => does_cat (a := (s ++ ([128] : List UInt8)) ++ List.replicate j (0 : UInt8)) (b := ([0] : List UInt8)) (hT 17 rfl rfl) rfl (by rw [hlen]; unfold zeros at hj; simp only [List.length_cons, List.length_nil]; omega) ⟨Ext.refl _, rfl⟩
 intro a7 wd7 hN_7 hD_7 hO hR hA hU
 obtain ⟨_, t18, _⟩ := hA
 have hE_7 := hE_6.trans hR
 have s0_7 := (hO 0 rfl).trans s0_6
 have s2_7 := (hO 2 rfl).trans s2_6
 have s3_7 := (hO 3 rfl).trans s3_6
 have hbb2_7 := hbb2_6.ext' hR
 have s18_7 : get a7 18 = str (((s ++ ([128] : List UInt8)) ++ List.replicate j (0 : UInt8)) ++ (([0] : List UInt8))) := t18
 clear hE_6 hN_6 hD_6 s0_6 s2_6 s3_6 s16_6 hbb2_6
 refine tail_put rfl rfl hN_7 hD_7 (by decide) (does_assign (V := str (((s ++ ([128] : List UInt8)) ++ List.replicate j (0 : UInt8)) ++ (([0] : List UInt8)))) s18_7 (fun a8 hN_8 hD_8 hv hO => ?_))
 have s0_8 := hv
 have s2_8 := (hO 2 rfl).trans s2_7
 have s3_8 := (hO 3 rfl).trans s3_7
 clear hO hv hN_7 hD_7 s2_7 s3_7 s18_7 s0_7
 refine tail_nil ?_
 exact ⟨_, by omega, j + 1, rfl, hN_8, hD_8, (by rw [s0_8, rep_succ]), s2_8, s3_8, hE_7, hbb2_7, by omega⟩
 have hc0 := of_decide_eq_true (bn' hc0)
 have h8 : (s.length + 1 + j) % 16 = 8 := by omega
 have h15 : j ≤ 15 := by unfold zeros at hj; omega
 have hj2 : j = zeros s.length := by unfold zeros at hj ⊢; omega
 have hw4 : ((s ++ ([128] : List UInt8)) ++ List.replicate j (0 : UInt8)).length % 4 = 0 := by omega
 have hwn : ((s ++ ([128] : List UInt8)) ++ List.replicate j (0 : UInt8)).length ≤ 4194304 := by unfold zeros at hj2; omega
 refine wp_exit ?_
 refine wp_seq ?_
 refine region_lex [] [(20, Pr.ex (str ((s ++ ([128] : List UInt8)) ++ List.replicate j (0 : UInt8)))), (21, Pr.t2 (Pr.own' W32 wd6.heap.size 22 (words ((s ++ ([128] : List UInt8)) ++ List.replicate j (0 : UInt8)))) (Pr.ex (i64 ((0 : Nat) : Int)))), (19, Pr.t2 (Pr.own' W32 wd6.heap.size 22 (words ((s ++ ([128] : List UInt8)) ++ List.replicate j (0 : UInt8)))) (Pr.ex (i64 ((0 : Nat) : Int)))), (22, Pr.own' W32 wd6.heap.size 22 (words ((s ++ ([128] : List UInt8)) ++ List.replicate j (0 : UInt8)))), (23, Pr.ex (i64 ((0 : Nat) : Int))), (4, Pr.own' W32 wd6.heap.size 22 (words ((s ++ ([128] : List UInt8)) ++ List.replicate j (0 : UInt8)))), (5, Pr.ex (i64 ((0 : Nat) : Int)))] 7 hN_6 hD_6 (by kernel_rfl) (by kernel_rfl) ?_ ?_
 refine Asks.cons ?_ (Asks.cons ?_ (Asks.cons ?_ (Asks.cons ?_ (Asks.cons ?_ (Asks.cons ?_ (Asks.cons ?_ (Asks.zero _)))))))
 exact Ask.plain rfl rfl fun aq wq hNq hO hR hT => does_move (V := str ((s ++ ([128] : List UInt8)) ++ List.replicate j (0 : UInt8))) ((hO 0 rfl).trans s0_6) ⟨Ext.refl _, rfl⟩
 exact Ask.plain rfl rfl fun aq wq hNq hO hR hT => does_ret (vs := #[str ((s ++ ([128] : List UInt8)) ++ List.replicate j (0 : UInt8))]) call_57 (args1 (hT 20 rfl rfl)) rfl ((wordsR ((s ++ ([128] : List UInt8)) ++ List.replicate j (0 : UInt8)) wq hw4 hwn).mono fun v w2 h => ⟨h.2, by obtain ⟨x0, x1, hv, k0, k1⟩ := h.1; exact ⟨x0, x1, hv, OwnT.base k0 hR.size', k1⟩⟩)
 exact Ask.plain rfl rfl fun aq wq hNq hO hR hT => does_move rfl ⟨Ext.refl _, (hT 21 rfl rfl)⟩
 exact Ask.plain rfl rfl fun aq wq hNq hO hR hT => by
  obtain ⟨x0, x1, hv, k0, k1⟩ := (hT 19 rfl rfl)
  exact does_extract hv rfl ⟨Ext.refl _, k0⟩
 exact Ask.plain rfl rfl fun aq wq hNq hO hR hT => by
  obtain ⟨x0, x1, hv, k0, k1⟩ := (hT 19 rfl rfl)
  exact does_extract (V := i64 ((0 : Nat) : Int)) hv (by rw [show x1 = i64 ((0 : Nat) : Int) from k1]; rfl) ⟨Ext.refl _, rfl⟩
 exact Ask.plain rfl rfl fun aq wq hNq hO hR hT => does_assign rfl ⟨Ext.refl _, (hT 22 rfl rfl)⟩
 exact Ask.plain rfl rfl fun aq wq hNq hO hR hT => does_assign (V := i64 ((0 : Nat) : Int)) (hT 23 rfl rfl) ⟨Ext.refl _, rfl⟩
 intro a9 wd9 hN_9 hD_9 hO hR hA hU
 obtain ⟨_, _, _, _, _, t4, _, _⟩ := hA
 have hE_9 := hE_6.trans hR
 have s2_9 := (hO 2 rfl).trans s2_6
 have s3_9 := (hO 3 rfl).trans s3_6
 have hbb2_9 := hbb2_6.ext' hR
 obtain ⟨x4, s4_9⟩ : ∃ x, get a9 4 = x := ⟨_, rfl⟩
 replace t4 : OwnT W32 wd6.heap.size 22 (words ((s ++ ([128] : List UInt8)) ++ List.replicate j (0 : UInt8))) x4 wd9 := by rw [← s4_9]; exact t4
 have nbo_x4_b2 : x4.ownBlock ≠ some b2 := fun e => Nat.lt_irrefl _ (Nat.lt_of_lt_of_le hbb2_6.lt (OwnT.block_lt t4 e).1)
 have hsx4_9 := t4.sl.wide (Nat.zero_le _) (.inl rfl)
 have hox4_9 := OwnT.base t4 hE_6.size'
 clear hE_6 hN_6 hD_6 s0_6 s2_6 s3_6 s16_6 hbb2_6
 refine tail_nil ?_
 refine wp_seq ?_
 refine region_lex [] [(24, Pr.ex (x4)), (25, Pr.ex (w64 (UInt64.ofNat s.length))), (26, Pr.ex (w32 ((UInt64.ofNat s.length).toUInt32))), (27, Pr.ex (w64 (UInt64.ofNat s.length))), (28, Pr.ex (w64 (UInt64.ofNat ((UInt64.ofNat s.length).toNat / 2 ^ 32)))), (29, Pr.ex (w32 ((UInt64.ofNat ((UInt64.ofNat s.length).toNat / 2 ^ 32)).toUInt32))), (30, Pr.own' W32 wd9.heap.size 22 ([(UInt64.ofNat s.length).toUInt32, (UInt64.ofNat ((UInt64.ofNat s.length).toNat / 2 ^ 32)).toUInt32]))] 7 hN_9 hD_9 (by kernel_rfl) (by kernel_rfl) ?_ ?_
 refine Asks.cons ?_ (Asks.cons ?_ (Asks.cons ?_ (Asks.cons ?_ (Asks.cons ?_ (Asks.cons ?_ (Asks.cons ?_ (Asks.zero _)))))))
 exact Ask.plain rfl rfl fun aq wq hNq hO hR hT => does_move (V := x4) ((hO 4 rfl).trans s4_9) ⟨Ext.refl _, rfl⟩
 exact Ask.plain rfl rfl fun aq wq hNq hO hR hT => does_move (V := w64 (UInt64.ofNat s.length)) ((hO 3 rfl).trans s3_9) ⟨Ext.refl _, rfl⟩
 exact Ask.plain rfl rfl fun aq wq hNq hO hR hT => does_conv ⟨_, Tryd.underlying80⟩ Tryd.underlying22 (hT 25 rfl rfl) (conv_64_32 _) ⟨Ext.refl _, rfl⟩
 exact Ask.plain rfl rfl fun aq wq hNq hO hR hT => does_move (V := w64 (UInt64.ofNat s.length)) ((hO 3 rfl).trans s3_9) ⟨Ext.refl _, rfl⟩
 exact Ask.plain rfl rfl fun aq wq hNq hO hR hT => does_shr64 (a := UInt64.ofNat s.length) (b := 32) (hT 27 rfl rfl) rfl (by decide) ⟨Ext.refl _, rfl⟩
 exact Ask.plain rfl rfl fun aq wq hNq hO hR hT => does_conv ⟨_, Tryd.underlying80⟩ Tryd.underlying22 (hT 28 rfl rfl) (conv_64_32 _) ⟨Ext.refl _, rfl⟩
 exact Ask.plain rfl rfl fun aq wq hNq hO hR hT => does_sliceN (T := W32) (xs := [(UInt64.ofNat s.length).toUInt32, (UInt64.ofNat ((UInt64.ofNat s.length).toNat / 2 ^ 32)).toUInt32]) (vs := [w32 ((UInt64.ofNat s.length).toUInt32), w32 ((UInt64.ofNat ((UInt64.ofNat s.length).toNat / 2 ^ 32)).toUInt32)]) app_70 rfl (parts2 (hT 26 rfl rfl) (hT 29 rfl rfl)) rfl (by decide) (by decide) rfl (fun v w2 he _ ho => ⟨he, OwnT.base ho hR.size'⟩)
 intro a10 wd10 hN_10 hD_10 hO hR hA hU
 obtain ⟨t24, _, _, _, _, _, t30, _⟩ := hA
 have hE_10 := hE_9.trans hR
 have s2_10 := (hO 2 rfl).trans s2_9
 have s4_10 := (hO 4 rfl).trans s4_9
 have hbb2_10 := hbb2_9.ext' hR
 have hsx4_10 := hsx4_9.ext' hR
 have hox4_10 := hox4_9.ext' hR
 have s24_10 : get a10 24 = x4 := t24
 obtain ⟨x30, s30_10⟩ : ∃ x, get a10 30 = x := ⟨_, rfl⟩
 replace t30 : OwnT W32 wd9.heap.size 22 ([(UInt64.ofNat s.length).toUInt32, (UInt64.ofNat ((UInt64.ofNat s.length).toNat / 2 ^ 32)).toUInt32]) x30 wd10 := by rw [← s30_10]; exact t30
 have nbo_x30_b2 : x30.ownBlock ≠ some b2 := fun e => Nat.lt_irrefl _ (Nat.lt_of_lt_of_le hbb2_9.lt (OwnT.block_lt t30 e).1)
 have no_x30_x4 : ∀ k, x30.ownBlock = some k → x4.ownBlock ≠ some k := fun k e e' => Nat.lt_irrefl _ (Nat.lt_of_lt_of_le (OwnT.block_lt hox4_9 e').2 (OwnT.block_lt t30 e).1)
 have hsx30_10 := t30.sl.wide (Nat.zero_le _) (.inl rfl)
 have hox30_10 := OwnT.base t30 hE_9.size'
 clear hE_9 hN_9 hD_9 s2_9 s3_9 s4_9 hbb2_9 hsx4_9 hox4_9
 have hwl := words_le ((s ++ ([128] : List UInt8)) ++ List.replicate j (0 : UInt8))
 have hwl4 := words_len4 _ hw4
 obtain ⟨LL, hLL⟩ : ∃ LL : List UInt32, (words ((s ++ ([128] : List UInt8)) ++ List.replicate j (0 : UInt8))) ++ [(UInt64.ofNat s.length).toUInt32, (UInt64.ofNat ((UInt64.ofNat s.length).toNat / 2 ^ 32)).toUInt32] = LL := ⟨_, rfl⟩
 have hL4 : LL.length % 4 = 0 := by rw [← hLL]; rw [hlen] at hwl4; simp only [List.length_append, List.length_cons, List.length_nil]; omega
 have hLN : LL.length ≤ 1048576 := by rw [← hLL]; rw [hlen] at hwl4; simp only [List.length_append, List.length_cons, List.length_nil]; omega
 refine tail_put rfl rfl hN_10 hD_10 (by decide) (does_append (T := W32) (base := w0.heap.size) (xs := words ((s ++ ([128] : List UInt8)) ++ List.replicate j (0 : UInt8))) (ys := [(UInt64.ofNat s.length).toUInt32, (UInt64.ofNat ((UInt64.ofNat s.length).toNat / 2 ^ 32)).toUInt32]) (v := x4) app_70 s24_10 hox4_10 (SlT.at s30_10 hsx30_10) (by simp) (by simp only [List.length_cons, List.length_nil]; omega) (by simp only [List.length_cons, List.length_nil]; omega) hE_10.size' (fun x31 wd11 hX hox31_11 hk a11 hN_11 hD_11 hv hO => ?_))
 have hE_11 := hE_10.since hX (fun b hb => Nat.le_trans (Nat.le_refl _) (OwnT.block_lt hox4_10 hb).1)
 have hbb2_11 := hbb2_10.ext hX nbo_x4_b2
 have nbo_x31_b2 : x31.ownBlock ≠ some b2 := fun e => (hk _ e).elim nbo_x4_b2 (fun h => Nat.lt_irrefl _ (Nat.lt_of_lt_of_le hbb2_10.lt h))
 have hox30_11 := OwnT.ext hox30_10 hX (fun k hk e => no_x30_x4 k hk e)
 have no_x31_x30 : ∀ k, x31.ownBlock = some k → x30.ownBlock ≠ some k := fun k e e' => (hk k e).elim (fun h => no_x30_x4 k e' h) (fun h => Nat.lt_irrefl _ (Nat.lt_of_lt_of_le (OwnT.block_lt hox30_10 e').2 h))
 have hsx30_11 := hox30_11.sl.wide (Nat.zero_le _) (.inl rfl)
 have hsx31_11 := hox31_11.sl.wide (Nat.zero_le _) (.inl rfl)
 rw [hLL] at hox31_11 hsx31_11
 have s31_11 := hv
 have s2_11 := (hO 2 rfl).trans s2_10
 have s4_11 := (hO 4 rfl).trans s4_10
 clear hO hv hX hk hN_10 hD_10 hE_10 hbb2_10 hox30_10 s2_10 s4_10 s24_10 s30_10
 refine tail_put rfl rfl hN_11 hD_11 (by decide) (does_assign (V := x31) s31_11 (fun a12 hN_12 hD_12 hv hO => ?_))
 have s4_12 := hv
 have s2_12 := (hO 2 rfl).trans s2_11
 clear hO hv hN_11 hD_11 s2_11 s31_11 s4_11
 refine tail_nil ?_
 refine wp_seq ?_
 refine region_lex [6] [(32, Pr.ex (Value.agg #[w32 (1), w32 (0), w32 (0), w32 (0), w32 (0), w32 (0), w32 (0), w32 (0)])), (6, Pr.box' wd11.heap.size 83 [w32 (0), w32 (0), w32 (0), w32 (0), w32 (0), w32 (0), w32 (0), w32 (0)])] 2 hN_12 hD_12 (by kernel_rfl) (by kernel_rfl) ?_ ?_
 refine Asks.cons ?_ (Asks.cons ?_ (Asks.zero _))
 exact Ask.plain rfl rfl fun aq wq hNq hO hR hT => does_build (vs := #[(0, w32 (1))]) (V := Value.agg #[w32 (1), w32 (0), w32 (0), w32 (0), w32 (0), w32 (0), w32 (0), w32 (0)]) (parts1 rfl) (by kernel_rfl) ⟨Ext.refl _, rfl⟩
 refine Ask.fresh rfl rfl ?_
 intro aq wq hNq hO hR hT
 exact does_alloc zero_83 (fun b w2 he hlo hb => ⟨he, ⟨b, rfl, Nat.le_trans hR.size' hlo, hb⟩, ⟨b, rfl, hlo, hb.lt⟩⟩)
 intro a13 wd13 hN_13 hD_13 hO hR hA hU
 obtain ⟨t32, t6, _⟩ := hA
 have hE_13 := hE_11.trans hR
 have s2_13 := (hO 2 rfl).trans s2_12
 have s4_13 := (hO 4 rfl).trans s4_12
 have hbb2_13 := hbb2_11.ext' hR
 have hsx30_13 := hsx30_11.ext' hR
 have hsx31_13 := hsx31_11.ext' hR
 have hox30_13 := hox30_11.ext' hR
 have hox31_13 := hox31_11.ext' hR
 have s32_13 : get a13 32 = Value.agg #[w32 (1), w32 (0), w32 (0), w32 (0), w32 (0), w32 (0), w32 (0), w32 (0)] := t32
 obtain ⟨b6, s6_13, lo_b6, hbb6_13⟩ := t6
 have ne_b2_b6 : b2 ≠ b6 := fun e => Nat.lt_irrefl _ (Nat.lt_of_lt_of_le hbb2_11.lt (e ▸ lo_b6))
 have nb_x30_b6 := SlT.old hsx30_11 lo_b6
 have nb_x31_b6 := SlT.old hsx31_11 lo_b6
 have nbo_x30_b6 : x30.ownBlock ≠ some b6 := fun e => Nat.lt_irrefl _ (Nat.lt_of_lt_of_le (OwnT.block_lt hox30_11 e).2 lo_b6)
 have nbo_x31_b6 : x31.ownBlock ≠ some b6 := fun e => Nat.lt_irrefl _ (Nat.lt_of_lt_of_le (OwnT.block_lt hox31_11 e).2 lo_b6)
 have fr_b6 : w0.heap.size ≤ b6 := Nat.le_trans hE_11.size' lo_b6
 clear hE_11 hN_12 hD_12 s2_12 s4_12 hbb2_11 hsx30_11 hsx31_11 hox30_11 hox31_11
 refine tail_none rfl rfl (does_storeD (o := 0) (n := 8) (cs' := [w32 (1), w32 (0), w32 (0), w32 (0), w32 (0), w32 (0), w32 (0), w32 (0)]) (V := Value.agg #[w32 (1), w32 (0), w32 (0), w32 (0), w32 (0), w32 (0), w32 (0), w32 (0)]) s6_13 s32_13 hbb6_13 (Nat.le_of_ble_eq_true rfl) rfl siz_83 rfl rfl (fun wd14 hX hz hbb6_14 => ?_))
 have hE_14 := hE_13.since hX (fun k e => e ▸ fr_b6)
 have hbb2_14 := hbb2_13.ext hX ne_b2_b6
 have hsx30_14 := SlT.over hsx30_13 hX nb_x30_b6
 have hsx31_14 := SlT.over hsx31_13 hX nb_x31_b6
 have hox30_14 := OwnT.ext hox30_13 hX (fun k hk e => nbo_x30_b6 (e ▸ hk))
 have hox31_14 := OwnT.ext hox31_13 hX (fun k hk e => nbo_x31_b6 (e ▸ hk))
 clear hX hz hE_13 hbb2_13 hbb6_13 hsx30_13 hsx31_13 hox30_13 hox31_13
 refine tail_nil ?_
 refine wp_seq ?_
 refine wp_seq ?_
 refine region_lex [] [(7, Pr.ex (i64 ((0 : Nat) : Int)))] 1 hN_13 hD_13 (by kernel_rfl) (by kernel_rfl) ?_ ?_
 refine Asks.cons ?_ (Asks.zero _)
 exact Ask.plain rfl rfl fun aq wq hNq hO hR hT => does_assign (V := i64 ((0 : Nat) : Int)) rfl ⟨Ext.refl _, rfl⟩
 intro a15 wd15 hN_15 hD_15 hO hR hA hU
 obtain ⟨t7, _⟩ := hA
 have hE_15 := hE_14.trans hR
 have s2_15 := (hO 2 rfl).trans s2_13
 have s4_15 := (hO 4 rfl).trans s4_13
 have s6_15 := (hO 6 rfl).trans s6_13
 have hbb2_15 := hbb2_14.ext' hR
 have hbb6_15 := hbb6_14.ext' hR
 have hsx30_15 := hsx30_14.ext' hR
 have hsx31_15 := hsx31_14.ext' hR
 have hox30_15 := hox30_14.ext' hR
 have hox31_15 := hox31_14.ext' hR
 have s7_15 : get a15 7 = i64 ((0 : Nat) : Int) := t7
 clear hE_14 hN_13 hD_13 s2_13 s4_13 s6_13 s32_13 hbb2_14 hbb6_14 hsx30_14 hsx31_14 hox30_14 hox31_14
 refine tail_nil ?_
 refine wp_block ?_
 refine loop_g (fun mz az wz => ∃ i : Nat, ∃ st : St, mz = LL.length - i ∧ (az.tmps.size = 70) ∧ (az.defers = []) ∧ (get az 2 = Value.pointer (some ⟨b2, 0, none⟩)) ∧ (get az 4 = x31) ∧ (get az 6 = Value.pointer (some ⟨b6, 0, none⟩)) ∧ (get az 7 = i64 ((i : Nat) : Int)) ∧ (Ext w0 wz) ∧ (Has wz b2 24 [w32 (Dg.zero).a, w32 (Dg.zero).b, w32 (Dg.zero).c, w32 (Dg.zero).d]) ∧ (Has wz b6 83 [w32 (st.a), w32 (st.b), w32 (st.c), w32 (st.d), w32 (st.e), w32 (st.f), w32 (st.g), w32 (st.h)]) ∧ (SlT W32 0 0 (LL) x31 wz) ∧ (st.takes (LL.drop i) = (St.first 1).takes LL) ∧ (i % 4 = 0) ∧ (i ≤ LL.length)) ?_ ?_
 exact ⟨_, 0, (St.first 1), rfl, hN_15, hD_15, s2_15, s4_15, s6_15, s7_15, hE_15, hbb2_15, hbb6_15, hsx31_15, rfl, rfl, Nat.zero_le _⟩
 rintro mz a16 wd16 ⟨i, st, rfl, hN_16, hD_16, s2_16, s4_16, s6_16, s7_16, hE_16, hbb2_16, hbb6_16, hsx31_16, hst, hi4, hi⟩
 refine wp_seq ?_
 refine wp_seq ?_
 refine region_lex [] [(33, Pr.ex (i64 ((i : Nat) : Int))), (34, Pr.ex (x31)), (35, Pr.ex (i64 ((LL.length : Nat) : Int))), (36, Pr.ex (Value.bool (decide (((i : Nat) : Int) < ((LL.length : Nat) : Int)))))] 4 hN_16 hD_16 (by kernel_rfl) (by kernel_rfl) ?_ ?_
 refine Asks.cons ?_ (Asks.cons ?_ (Asks.cons ?_ (Asks.cons ?_ (Asks.zero _))))
 exact Ask.plain rfl rfl fun aq wq hNq hO hR hT => does_move (V := i64 ((i : Nat) : Int)) ((hO 7 rfl).trans s7_16) ⟨Ext.refl _, rfl⟩
 exact Ask.plain rfl rfl fun aq wq hNq hO hR hT => does_move (V := x31) ((hO 4 rfl).trans s4_16) ⟨Ext.refl _, rfl⟩
 exact Ask.plain rfl rfl fun aq wq hNq hO hR hT => does_len (T := W32) (xs := LL) sli_70 (SlT.at (hT 34 rfl rfl) (hsx31_16.ext' hR)) ⟨Ext.refl _, rfl⟩
 exact Ask.plain rfl rfl fun aq wq hNq hO hR hT => does_lss (a := ((i : Nat) : Int)) (b := ((LL.length : Nat) : Int)) (hT 33 rfl rfl) (hT 35 rfl rfl) ⟨Ext.refl _, rfl⟩
 intro a17 wd17 hN_17 hD_17 hO hR hA hU
 obtain ⟨_, _, _, t36, _⟩ := hA
 have hE_17 := hE_16.trans hR
 have s2_17 := (hO 2 rfl).trans s2_16
 have s4_17 := (hO 4 rfl).trans s4_16
 have s6_17 := (hO 6 rfl).trans s6_16
 have s7_17 := (hO 7 rfl).trans s7_16
 have hbb2_17 := hbb2_16.ext' hR
 have hbb6_17 := hbb6_16.ext' hR
 have hsx31_17 := hsx31_16.ext' hR
 have s36_17 : get a17 36 = Value.bool (decide (((i : Nat) : Int) < ((LL.length : Nat) : Int))) := t36
 clear hE_16 hN_16 hD_16 s2_16 s4_16 s6_16 s7_16 hbb2_16 hbb6_16 hsx31_16
 refine tail_nil ?_
 refine wp_if (B := decide (((i : Nat) : Int) < ((LL.length : Nat) : Int))) s36_17 (fun hc1 => ?_) (fun hc1 => ?_)
 have hc1 := of_decide_eq_true hc1
 obtain ⟨p, q, r, t, m', hm4⟩ := four_of (l := LL.drop i) (by rw [List.length_drop]; omega)
 refine wp_skip ?_
 refine wp_seq ?_
 refine wp_block ?_
 refine region_any [] [(39, Pr.ex (Value.agg #[w32 (st.a), w32 (st.b), w32 (st.c), w32 (st.d), w32 (st.e), w32 (st.f), w32 (st.g), w32 (st.h)])), (40, Pr.ex (x31)), (41, Pr.ex (i64 ((i : Nat) : Int))), (42, Pr.pt' 0 0 [w32 (p)]), (43, Pr.ex (w32 (p))), (44, Pr.ex (x31)), (45, Pr.ex (i64 ((i : Nat) : Int))), (46, Pr.ex (i64 ((i + 1 : Nat) : Int))), (47, Pr.pt' 0 0 [w32 (q)]), (48, Pr.ex (w32 (q))), (49, Pr.ex (x31)), (50, Pr.ex (i64 ((i : Nat) : Int))), (51, Pr.ex (i64 ((i + 2 : Nat) : Int))), (52, Pr.pt' 0 0 [w32 (r)]), (53, Pr.ex (w32 (r))), (54, Pr.ex (x31)), (55, Pr.ex (i64 ((i : Nat) : Int))), (56, Pr.ex (i64 ((i + 3 : Nat) : Int))), (57, Pr.pt' 0 0 [w32 (t)]), (58, Pr.ex (w32 (t))), (59, Pr.ex (Dg.val ((⟨p, q, r, t⟩ : Dg)))), (60, Pr.ex (Value.agg #[w32 ((st.take ((⟨p, q, r, t⟩ : Dg))).a), w32 ((st.take ((⟨p, q, r, t⟩ : Dg))).b), w32 ((st.take ((⟨p, q, r, t⟩ : Dg))).c), w32 ((st.take ((⟨p, q, r, t⟩ : Dg))).d), w32 ((st.take ((⟨p, q, r, t⟩ : Dg))).e), w32 ((st.take ((⟨p, q, r, t⟩ : Dg))).f), w32 ((st.take ((⟨p, q, r, t⟩ : Dg))).g), w32 ((st.take ((⟨p, q, r, t⟩ : Dg))).h)]))] 22 mixed hN_17 hD_17 (by kernel_rfl) (by kernel_rfl) (by kernel_rfl) ?_ ?_
 refine Asks.cons ?_ (Asks.cons ?_ (Asks.cons ?_ (Asks.cons ?_ (Asks.cons ?_ (Asks.cons ?_ (Asks.cons ?_ (Asks.cons ?_ (Asks.cons ?_ (Asks.cons ?_ (Asks.cons ?_ (Asks.cons ?_ (Asks.cons ?_ (Asks.cons ?_ (Asks.cons ?_ (Asks.cons ?_ (Asks.cons ?_ (Asks.cons ?_ (Asks.cons ?_ (Asks.cons ?_ (Asks.cons ?_ (Asks.cons ?_ (Asks.zero _))))))))))))))))))))))
 exact Ask.plainD rfl rfl fun aq wq hNq hO hR hT => does_loadD (o := 0) (n := 8) (mid := [w32 (st.a), w32 (st.b), w32 (st.c), w32 (st.d), w32 (st.e), w32 (st.f), w32 (st.g), w32 (st.h)]) ((hO 6 rfl).trans s6_17) (hbb6_17.ext' hR) rfl rfl (Nat.le_of_ble_eq_true rfl) row_83 rfl ⟨Ext.refl _, rfl⟩
 exact Ask.plainD rfl rfl fun aq wq hNq hO hR hT => does_move (V := x31) ((hO 4 rfl).trans s4_17) ⟨Ext.refl _, rfl⟩
 exact Ask.plainD rfl rfl fun aq wq hNq hO hR hT => does_move (V := i64 ((i : Nat) : Int)) ((hO 7 rfl).trans s7_17) ⟨Ext.refl _, rfl⟩
 exact Ask.plainD rfl rfl fun aq wq hNq hO hR hT => does_indexSl (T := W32) (xs := LL) (i := ((i : Nat) : Int)) (X := p) sli_70 rfl (SlT.at (hT 40 rfl rfl) (hsx31_17.ext' hR)) (hT 41 rfl rfl) (by omega) (by have h := drop_get hm4 0; exact h) (fun v h => ⟨Ext.refl _, h⟩)
 exact Ask.plainD rfl rfl fun aq wq hNq hO hR hT => does_loadP1 (V := w32 (p)) (hT 42 rfl rfl) one_22 ⟨Ext.refl _, rfl⟩
 exact Ask.plainD rfl rfl fun aq wq hNq hO hR hT => does_move (V := x31) ((hO 4 rfl).trans s4_17) ⟨Ext.refl _, rfl⟩
 exact Ask.plainD rfl rfl fun aq wq hNq hO hR hT => does_move (V := i64 ((i : Nat) : Int)) ((hO 7 rfl).trans s7_17) ⟨Ext.refl _, rfl⟩
 exact Ask.plainD rfl rfl fun aq wq hNq hO hR hT => does_add (a := ((i : Nat) : Int)) (b := ((1 : Nat) : Int)) (r := ((i + 1 : Nat) : Int)) (hT 45 rfl rfl) rfl (by omega) (by omega) (by omega) ⟨Ext.refl _, rfl⟩
 exact Ask.plainD rfl rfl fun aq wq hNq hO hR hT => does_indexSl (T := W32) (xs := LL) (i := ((i + 1 : Nat) : Int)) (X := q) sli_70 rfl (SlT.at (hT 44 rfl rfl) (hsx31_17.ext' hR)) (hT 46 rfl rfl) (by omega) (by have h := drop_get hm4 1; exact h) (fun v h => ⟨Ext.refl _, h⟩)
 exact Ask.plainD rfl rfl fun aq wq hNq hO hR hT => does_loadP1 (V := w32 (q)) (hT 47 rfl rfl) one_22 ⟨Ext.refl _, rfl⟩
 exact Ask.plainD rfl rfl fun aq wq hNq hO hR hT => does_move (V := x31) ((hO 4 rfl).trans s4_17) ⟨Ext.refl _, rfl⟩
 exact Ask.plainD rfl rfl fun aq wq hNq hO hR hT => does_move (V := i64 ((i : Nat) : Int)) ((hO 7 rfl).trans s7_17) ⟨Ext.refl _, rfl⟩
 exact Ask.plainD rfl rfl fun aq wq hNq hO hR hT => does_add (a := ((i : Nat) : Int)) (b := ((2 : Nat) : Int)) (r := ((i + 2 : Nat) : Int)) (hT 50 rfl rfl) rfl (by omega) (by omega) (by omega) ⟨Ext.refl _, rfl⟩
 exact Ask.plainD rfl rfl fun aq wq hNq hO hR hT => does_indexSl (T := W32) (xs := LL) (i := ((i + 2 : Nat) : Int)) (X := r) sli_70 rfl (SlT.at (hT 49 rfl rfl) (hsx31_17.ext' hR)) (hT 51 rfl rfl) (by omega) (by have h := drop_get hm4 2; exact h) (fun v h => ⟨Ext.refl _, h⟩)
 exact Ask.plainD rfl rfl fun aq wq hNq hO hR hT => does_loadP1 (V := w32 (r)) (hT 52 rfl rfl) one_22 ⟨Ext.refl _, rfl⟩
 exact Ask.plainD rfl rfl fun aq wq hNq hO hR hT => does_move (V := x31) ((hO 4 rfl).trans s4_17) ⟨Ext.refl _, rfl⟩
 exact Ask.plainD rfl rfl fun aq wq hNq hO hR hT => does_move (V := i64 ((i : Nat) : Int)) ((hO 7 rfl).trans s7_17) ⟨Ext.refl _, rfl⟩
 exact Ask.plainD rfl rfl fun aq wq hNq hO hR hT => does_add (a := ((i : Nat) : Int)) (b := ((3 : Nat) : Int)) (r := ((i + 3 : Nat) : Int)) (hT 55 rfl rfl) rfl (by omega) (by omega) (by omega) ⟨Ext.refl _, rfl⟩
 exact Ask.plainD rfl rfl fun aq wq hNq hO hR hT => does_indexSl (T := W32) (xs := LL) (i := ((i + 3 : Nat) : Int)) (X := t) sli_70 rfl (SlT.at (hT 54 rfl rfl) (hsx31_17.ext' hR)) (hT 56 rfl rfl) (by omega) (by have h := drop_get hm4 3; exact h) (fun v h => ⟨Ext.refl _, h⟩)
 exact Ask.plainD rfl rfl fun aq wq hNq hO hR hT => does_loadP1 (V := w32 (t)) (hT 57 rfl rfl) one_22 ⟨Ext.refl _, rfl⟩
 exact Ask.plainD rfl rfl fun aq wq hNq hO hR hT => does_build (vs := #[(0, w32 (p)), (1, w32 (q)), (2, w32 (r)), (3, w32 (t))]) (V := Dg.val ((⟨p, q, r, t⟩ : Dg))) (parts4 (hT 43 rfl rfl) (hT 48 rfl rfl) (hT 53 rfl rfl) (hT 58 rfl rfl)) (by kernel_rfl) ⟨Ext.refl _, rfl⟩
 exact Ask.plainD rfl rfl fun aq wq hNq hO hR hT => does_ret (vs := #[Value.agg #[w32 (st.a), w32 (st.b), w32 (st.c), w32 (st.d), w32 (st.e), w32 (st.f), w32 (st.g), w32 (st.h)], Dg.val ((⟨p, q, r, t⟩ : Dg))]) call_58 (args2 (hT 39 rfl rfl) (hT 59 rfl rfl)) rfl ((takeR st ((⟨p, q, r, t⟩ : Dg)) wq).mono fun v w2 h => ⟨h.2, h.1⟩)
 intro a18 wd18 hN_18 hD_18 hO hR hA hU
 obtain ⟨_, _, _, _, _, _, _, _, _, _, _, _, _, _, _, _, _, _, _, _, _, t60, _⟩ := hA
 have hE_18 := hE_17.trans hR
 have s2_18 := (hO 2 rfl).trans s2_17
 have s4_18 := (hO 4 rfl).trans s4_17
 have s6_18 := (hO 6 rfl).trans s6_17
 have s7_18 := (hO 7 rfl).trans s7_17
 have hbb2_18 := hbb2_17.ext' hR
 have hbb6_18 := hbb6_17.ext' hR
 have hsx31_18 := hsx31_17.ext' hR
 have s60_18 : get a18 60 = Value.agg #[w32 ((st.take ((⟨p, q, r, t⟩ : Dg))).a), w32 ((st.take ((⟨p, q, r, t⟩ : Dg))).b), w32 ((st.take ((⟨p, q, r, t⟩ : Dg))).c), w32 ((st.take ((⟨p, q, r, t⟩ : Dg))).d), w32 ((st.take ((⟨p, q, r, t⟩ : Dg))).e), w32 ((st.take ((⟨p, q, r, t⟩ : Dg))).f), w32 ((st.take ((⟨p, q, r, t⟩ : Dg))).g), w32 ((st.take ((⟨p, q, r, t⟩ : Dg))).h)] := t60
 clear hE_17 hN_17 hD_17 s2_17 s4_17 s6_17 s7_17 s36_17 hbb2_17 hbb6_17 hsx31_17
 refine tail_none rfl rfl (does_storeD (o := 0) (n := 8) (cs' := [w32 ((st.take ((⟨p, q, r, t⟩ : Dg))).a), w32 ((st.take ((⟨p, q, r, t⟩ : Dg))).b), w32 ((st.take ((⟨p, q, r, t⟩ : Dg))).c), w32 ((st.take ((⟨p, q, r, t⟩ : Dg))).d), w32 ((st.take ((⟨p, q, r, t⟩ : Dg))).e), w32 ((st.take ((⟨p, q, r, t⟩ : Dg))).f), w32 ((st.take ((⟨p, q, r, t⟩ : Dg))).g), w32 ((st.take ((⟨p, q, r, t⟩ : Dg))).h)]) (V := Value.agg #[w32 ((st.take ((⟨p, q, r, t⟩ : Dg))).a), w32 ((st.take ((⟨p, q, r, t⟩ : Dg))).b), w32 ((st.take ((⟨p, q, r, t⟩ : Dg))).c), w32 ((st.take ((⟨p, q, r, t⟩ : Dg))).d), w32 ((st.take ((⟨p, q, r, t⟩ : Dg))).e), w32 ((st.take ((⟨p, q, r, t⟩ : Dg))).f), w32 ((st.take ((⟨p, q, r, t⟩ : Dg))).g), w32 ((st.take ((⟨p, q, r, t⟩ : Dg))).h)]) s6_18 s60_18 hbb6_18 (Nat.le_of_ble_eq_true rfl) rfl siz_83 rfl rfl (fun wd19 hX hz hbb6_19 => ?_))
 have hE_19 := hE_18.since hX (fun k e => e ▸ fr_b6)
 have hbb2_19 := hbb2_18.ext hX ne_b2_b6
 have hsx31_19 := SlT.over hsx31_18 hX nb_x31_b6
 clear hX hz hE_18 hbb2_18 hbb6_18 hsx31_18
 refine tail_nil ?_
 refine region_lex [] [(37, Pr.ex (i64 ((i : Nat) : Int))), (38, Pr.ex (i64 ((i + 4 : Nat) : Int)))] 2 hN_18 hD_18 (by kernel_rfl) (by kernel_rfl) ?_ ?_
 refine Asks.cons ?_ (Asks.cons ?_ (Asks.zero _))
 exact Ask.plain rfl rfl fun aq wq hNq hO hR hT => does_move (V := i64 ((i : Nat) : Int)) ((hO 7 rfl).trans s7_18) ⟨Ext.refl _, rfl⟩
 exact Ask.plain rfl rfl fun aq wq hNq hO hR hT => does_add (a := ((i : Nat) : Int)) (b := ((4 : Nat) : Int)) (r := ((i + 4 : Nat) : Int)) (hT 37 rfl rfl) rfl (by omega) (by omega) (by omega) ⟨Ext.refl _, rfl⟩
 intro a20 wd20 hN_20 hD_20 hO hR hA hU
 obtain ⟨_, t38, _⟩ := hA
 have hE_20 := hE_19.trans hR
 have s2_20 := (hO 2 rfl).trans s2_18
 have s4_20 := (hO 4 rfl).trans s4_18
 have s6_20 := (hO 6 rfl).trans s6_18
 have s7_20 := (hO 7 rfl).trans s7_18
 have hbb2_20 := hbb2_19.ext' hR
 have hbb6_20 := hbb6_19.ext' hR
 have hsx31_20 := hsx31_19.ext' hR
 have s38_20 : get a20 38 = i64 ((i + 4 : Nat) : Int) := t38
 clear hE_19 hN_18 hD_18 s2_18 s4_18 s6_18 s7_18 s60_18 hbb2_19 hbb6_19 hsx31_19
 refine tail_put rfl rfl hN_20 hD_20 (by decide) (does_assign (V := i64 ((i + 4 : Nat) : Int)) s38_20 (fun a21 hN_21 hD_21 hv hO => ?_))
 have s7_21 := hv
 have s2_21 := (hO 2 rfl).trans s2_20
 have s4_21 := (hO 4 rfl).trans s4_20
 have s6_21 := (hO 6 rfl).trans s6_20
 clear hO hv hN_20 hD_20 s2_20 s4_20 s6_20 s38_20 s7_20
 refine tail_nil ?_
 exact ⟨_, by omega, i + 4, (st.take ⟨p, q, r, t⟩), rfl, hN_21, hD_21, s2_21, s4_21, s6_21, s7_21, hE_20, hbb2_20, hbb6_20, hsx31_20, by rw [← hst, hm4, drop_four hm4]; rfl, by omega, by omega⟩
 have hc1 := of_decide_eq_false hc1
 refine wp_exit ?_
 refine wp_seq ?_
 refine region_lex [] [(61, Pr.ex (Value.pointer (some ⟨b6, 0, none⟩))), (62, Pr.ex (w32 (st.a))), (63, Pr.ex (Value.pointer (some ⟨b6, 1, none⟩))), (64, Pr.ex (w32 (st.b))), (65, Pr.ex (Value.pointer (some ⟨b6, 2, none⟩))), (66, Pr.ex (w32 (st.c))), (67, Pr.ex (Value.pointer (some ⟨b6, 3, none⟩))), (68, Pr.ex (w32 (st.d))), (69, Pr.ex (Dg.val ((⟨st.a, st.b, st.c, st.d⟩ : Dg))))] 9 hN_17 hD_17 (by kernel_rfl) (by kernel_rfl) ?_ ?_
 refine Asks.cons ?_ (Asks.cons ?_ (Asks.cons ?_ (Asks.cons ?_ (Asks.cons ?_ (Asks.cons ?_ (Asks.cons ?_ (Asks.cons ?_ (Asks.cons ?_ (Asks.zero _)))))))))
 exact Ask.plain rfl rfl fun aq wq hNq hO hR hT => does_indexArr (k := .i64) (i := 0) (o' := 0) arr_83 ((hO 6 rfl).trans s6_17) rfl (by decide) (by decide) rfl ⟨Ext.refl _, rfl⟩
 exact Ask.plain rfl rfl fun aq wq hNq hO hR hT => does_loadD1 (o := 0) (V := w32 (st.a)) (hT 61 rfl rfl) (hbb6_17.ext' hR) rfl one_22 ⟨Ext.refl _, rfl⟩
 exact Ask.plain rfl rfl fun aq wq hNq hO hR hT => does_indexArr (k := .i64) (i := 1) (o' := 1) arr_83 ((hO 6 rfl).trans s6_17) rfl (by decide) (by decide) rfl ⟨Ext.refl _, rfl⟩
 exact Ask.plain rfl rfl fun aq wq hNq hO hR hT => does_loadD1 (o := 1) (V := w32 (st.b)) (hT 63 rfl rfl) (hbb6_17.ext' hR) rfl one_22 ⟨Ext.refl _, rfl⟩
 exact Ask.plain rfl rfl fun aq wq hNq hO hR hT => does_indexArr (k := .i64) (i := 2) (o' := 2) arr_83 ((hO 6 rfl).trans s6_17) rfl (by decide) (by decide) rfl ⟨Ext.refl _, rfl⟩
 exact Ask.plain rfl rfl fun aq wq hNq hO hR hT => does_loadD1 (o := 2) (V := w32 (st.c)) (hT 65 rfl rfl) (hbb6_17.ext' hR) rfl one_22 ⟨Ext.refl _, rfl⟩
 exact Ask.plain rfl rfl fun aq wq hNq hO hR hT => does_indexArr (k := .i64) (i := 3) (o' := 3) arr_83 ((hO 6 rfl).trans s6_17) rfl (by decide) (by decide) rfl ⟨Ext.refl _, rfl⟩
 exact Ask.plain rfl rfl fun aq wq hNq hO hR hT => does_loadD1 (o := 3) (V := w32 (st.d)) (hT 67 rfl rfl) (hbb6_17.ext' hR) rfl one_22 ⟨Ext.refl _, rfl⟩
 exact Ask.plain rfl rfl fun aq wq hNq hO hR hT => does_build (vs := #[(0, w32 (st.a)), (1, w32 (st.b)), (2, w32 (st.c)), (3, w32 (st.d))]) (V := Dg.val ((⟨st.a, st.b, st.c, st.d⟩ : Dg))) (parts4 (hT 62 rfl rfl) (hT 64 rfl rfl) (hT 66 rfl rfl) (hT 68 rfl rfl)) (by kernel_rfl) ⟨Ext.refl _, rfl⟩
 intro a22 wd22 hN_22 hD_22 hO hR hA hU
 obtain ⟨_, _, _, _, _, _, _, _, t69, _⟩ := hA
 have hE_22 := hE_17.trans hR
 have s2_22 := (hO 2 rfl).trans s2_17
 have hbb2_22 := hbb2_17.ext' hR
 have hbb6_22 := hbb6_17.ext' hR
 have hsx31_22 := hsx31_17.ext' hR
 have s69_22 : get a22 69 = Dg.val ((⟨st.a, st.b, st.c, st.d⟩ : Dg)) := t69
 clear hE_17 hN_17 hD_17 s2_17 s4_17 s6_17 s7_17 s36_17 hbb2_17 hbb6_17 hsx31_17
 refine tail_none rfl rfl (does_storeD (o := 0) (n := 4) (cs' := [w32 ((⟨st.a, st.b, st.c, st.d⟩ : Dg)).a, w32 ((⟨st.a, st.b, st.c, st.d⟩ : Dg)).b, w32 ((⟨st.a, st.b, st.c, st.d⟩ : Dg)).c, w32 ((⟨st.a, st.b, st.c, st.d⟩ : Dg)).d]) (V := Dg.val ((⟨st.a, st.b, st.c, st.d⟩ : Dg))) s2_22 s69_22 hbb2_22 (Nat.le_of_ble_eq_true rfl) rfl siz_24 rfl rfl (fun wd23 hX hz hbb2_23 => ?_))
 have hE_23 := hE_22.since hX (fun k e => e ▸ fr_b2)
 have hbb6_23 := hbb6_22.ext hX ne_b2_b6.symm
 have hsx31_23 := SlT.over hsx31_22 hX (fun _ => nbo_x31_b2)
 clear hX hz hE_22 hbb2_22 hbb6_22 hsx31_22
 refine tail_nil ?_
 refine wp_ret ?_
 refine res_one (V := Dg.val ((⟨st.a, st.b, st.c, st.d⟩ : Dg))) rfl hD_22 (ResIs.cell s2_22 hbb2_23 row_24 rfl rfl) ?_
 have hz : LL.drop i = [] := List.drop_eq_nil_of_le (by omega)
 rw [hz] at hst
 have hst2 : st = (St.first 1).takes LL := hst
 exact ⟨by show Dg.val _ = Dg.val _; rw [← ofR_eq s hn hj2 hLL, ← hst2]; rfl, hE_23⟩

end Go.Proofs.YtaeohnkfmachfabDoor
