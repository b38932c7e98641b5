/- The walks of functions of the program: printed. -/
import Derived.Test.YtmmghpbncejfiaaDoorG3
import Derived.Test.YtmmghpbncejfiaaDoorR0
import Derived.Test.YtmmghpbncejfiaaDoorG4
import Derived.Test.YtmmghpbncejfiaaDoorF0
set_option maxRecDepth 100000
namespace Go.Proofs.YtmmghpbncejfiaaDoor
open Go Go.RowKit Sk Sd
theorem wordsR (s : List UInt8) (w0 : World) (h4 : s.length % 4 = 0) (hn : s.length ≤ 4194304) :
    Gives Tryd.prog 38 #[str (s)] w0 (Pr.t2 (Pr.own' W32 w0.heap.size 22 (words s)) (Pr.ex (i64 ((0 : Nat) : Int)))) := by
 refine enter (N := 40) Tryd.func38 rfl rfl ?_
 intro a0 N0 D0 hA
 have s0_0 : get a0 0 = str (s) := hA 0 _ rfl
 clear hA
 have E0 : Ext w0 w0 := Ext.refl w0
 refine wp_seq ?_
 refine Rl [] [(2, Pr.ex (Value.slice none 0 0)), (3, Pr.ex (i64 ((0 : Nat) : Int)))] 2 N0 D0 ?_ ?_
 refine Ac ?_ (Ac ?_ (Az _))
 exact Ap fun aq wq _ hO hR hT => does_assign (V := Value.slice none 0 0) rfl eR
 exact Ap fun aq wq _ hO hR hT => does_assign (V := i64 ((0 : Nat) : Int)) rfl eR
 intro a1 wd1 N1 D1 hO hR hA hU
 obtain ⟨_, _, _⟩ := hA
 have E1 := E0.trans hR
 have s0_1 := oT hO s0_0 rfl
 clear E0 N0 D0 s0_0
 refine tail_nil ?_
 refine wp_seq ?_
 refine wp_seq ?_
 refine Rl [] [(8, Pr.ex (str (s))), (9, Pr.ex (i64 (s.length : Int))), (10, Pr.ex (i64 ((s.length % 4 : Nat) : Int))), (11, Pr.ex (Value.bool (!decide (((s.length % 4 : Nat) : Int) = ((0 : Nat) : Int)))))] 4 N1 D1 ?_ ?_
 refine Ac ?_ (Ac ?_ (Ac ?_ (Ac ?_ (Az _))))
 exact Am s0_1 rfl fun _ => rfl
 exact Ap fun aq wq _ hO hR hT => does_lenStr (l := s) Tryd.underlying9 (hT 8 rfl rfl) eR
 exact Ap fun aq wq _ hO hR hT => does_rem (k := .i64) (a := (s.length : Int)) (b := ((4 : Nat) : Int)) (r := ((s.length % 4 : Nat) : Int)) (hT 9 rfl rfl) rfl (by omega) (by omega) (by omega) eR
 exact Ap fun aq wq _ hO hR hT => does_neq (a := ((s.length % 4 : Nat) : Int)) (b := ((0 : Nat) : Int)) (hT 10 rfl rfl) rfl eR
 intro a2 wd2 N2 D2 hO hR hA hU
 obtain ⟨_, _, _, t11, _⟩ := hA
 have E2 := E1.trans hR
 have s0_2 := oT hO s0_1 rfl
 have s11_2 : get a2 11 = Value.bool (!decide (((s.length % 4 : Nat) : Int) = ((0 : Nat) : Int))) := t11
 clear E1 N1 D1 s0_1
 refine tail_nil ?_
 refine wp_if (B := !decide (((s.length % 4 : Nat) : Int) = ((0 : Nat) : Int))) s11_2 (fun hc0 => ?_) (fun hc0 => ?_)
 have hc0 := of_decide_eq_false (bn hc0)
 omega
 have hc0 := of_decide_eq_true (bn' hc0)
 refine wp_skip ?_
 refine wp_seq ?_
 refine Rl [] [(12, Pr.ex (str (s))), (13, Pr.ex (i64 (s.length : Int))), (14, Pr.ex (i64 ((s.length / 4 : Nat) : Int))), (15, Pr.own' W32 wd2.heap.size 22 ([])), (4, Pr.own' W32 wd2.heap.size 22 ([]))] 5 N2 D2 ?_ ?_
 refine Ac ?_ (Ac ?_ (Ac ?_ (Ac ?_ (Ac ?_ (Az _)))))
 exact Am s0_2 rfl fun _ => rfl
 exact Ap fun aq wq _ hO hR hT => does_lenStr (l := s) Tryd.underlying9 (hT 12 rfl rfl) eR
 exact Ap fun aq wq _ hO hR hT => does_quo (a := (s.length : Int)) (b := ((4 : Nat) : Int)) (r := ((s.length / 4 : Nat) : Int)) (hT 13 rfl rfl) rfl (by omega) (by omega) (by omega) (by omega) eR
 exact Ap fun aq wq _ hO hR hT => does_make0 (T := W32) (c := s.length / 4) app_58 rfl rfl (hT 14 rfl rfl) (by omega) (by unfold maxLen; omega) (fun v w2 he _ ho => ⟨he, OwnT.base ho hR.size'⟩)
 exact Ap fun aq wq _ hO hR hT => does_assign rfl ⟨Ext.refl _, (hT 15 rfl rfl)⟩
 intro a3 wd3 N3 D3 hO hR hA hU
 obtain ⟨_, _, _, _, t4, _⟩ := hA
 have E3 := E2.trans hR
 have s0_3 := oT hO s0_2 rfl
 obtain ⟨x4, s4_3⟩ : ∃ x, get a3 4 = x := ⟨_, rfl⟩
 replace t4 : OwnT W32 wd2.heap.size 22 ([]) x4 wd3 := by rw [← s4_3]; exact t4
 have X4_3 := t4.sl.wide (Nat.zero_le _) (.inl rfl)
 have O4_3 := OwnT.base t4 E2.size'
 clear E2 N2 D2 s0_2 s11_2
 refine tail_nil ?_
 refine wp_seq ?_
 refine wp_seq ?_
 refine Rl [] [(5, Pr.ex (i64 ((0 : Nat) : Int)))] 1 N3 D3 ?_ ?_
 refine Ac ?_ (Az _)
 exact Ap fun aq wq _ hO hR hT => does_assign (V := i64 ((0 : Nat) : Int)) rfl eR
 intro a4 wd4 N4 D4 hO hR hA hU
 obtain ⟨t5, _⟩ := hA
 have E4 := E3.trans hR
 have s0_4 := oT hO s0_3 rfl
 have s4_4 := oT hO s4_3 rfl
 have X4_4 := X4_3.ext' hR
 have O4_4 := O4_3.ext' hR
 have s5_4 : get a4 5 = i64 ((0 : Nat) : Int) := t5
 clear E3 N3 D3 s0_3 s4_3 X4_3 O4_3
 refine tail_nil ?_
 refine wp_block ?_
 refine loop_g (fun mz az wz => ∃ i : Nat, ∃ acc : List UInt32, ∃ xo : Value, mz = s.length - i ∧ (az.tmps.size = 40) ∧ (az.defers = []) ∧ (get az 0 = str (s)) ∧ (get az 4 = xo) ∧ (get az 5 = i64 (i : Int)) ∧ (Ext w0 wz) ∧ (OwnT W32 w0.heap.size 22 (acc) xo wz) ∧ (acc ++ words (s.drop i) = words s) ∧ (i % 4 = 0) ∧ (i ≤ s.length) ∧ (acc.length ≤ i)) ?_ ?_
 exact ⟨_, 0, [], x4, rfl, N4, D4, s0_4, s4_4, s5_4, E4, O4_4, rfl, rfl, Nat.zero_le _, Nat.zero_le _⟩
 rintro mz a5 wd5 ⟨i, acc, xo, rfl, N5, D5, s0_5, s4_5, s5_5, E5, hoxo_5, hm, hi4, hi, hal⟩
 have hsxo_5 := hoxo_5.sl.wide (Nat.zero_le _) (.inl rfl)
 refine wp_seq ?_
 refine wp_seq ?_
 refine Rl [] [(16, Pr.ex (i64 (i : Int))), (17, Pr.ex (str (s))), (18, Pr.ex (i64 (s.length : Int))), (19, Pr.ex (Value.bool (decide ((i : Int) < (s.length : Int)))))] 4 N5 D5 ?_ ?_
 refine Ac ?_ (Ac ?_ (Ac ?_ (Ac ?_ (Az _))))
 exact Am s5_5 rfl fun _ => rfl
 exact Am s0_5 rfl fun _ => rfl
 exact Ap fun aq wq _ hO hR hT => does_lenStr (l := s) Tryd.underlying9 (hT 17 rfl rfl) eR
 exact Ap fun aq wq _ hO hR hT => does_lss (a := (i : Int)) (b := (s.length : Int)) (hT 16 rfl rfl) (hT 18 rfl rfl) eR
 intro a6 wd6 N6 D6 hO hR hA hU
 obtain ⟨_, _, _, t19, _⟩ := hA
 have E6 := E5.trans hR
 have s0_6 := oT hO s0_5 rfl
 have s4_6 := oT hO s4_5 rfl
 have s5_6 := oT hO s5_5 rfl
 have hsxo_6 := hsxo_5.ext' hR
 have hoxo_6 := hoxo_5.ext' hR
 have s19_6 : get a6 19 = Value.bool (decide ((i : Int) < (s.length : Int))) := t19
 clear E5 N5 D5 s0_5 s4_5 s5_5 hsxo_5 hoxo_5
 refine tail_nil ?_
 refine wp_if (B := decide ((i : Int) < (s.length : Int))) s19_6 (fun hc1 => ?_) (fun hc1 => ?_)
 have hc1 := of_decide_eq_true hc1
 obtain ⟨a, b, c, d, m', hm4⟩ := four_of (l := s.drop i) (by rw [List.length_drop]; omega)
 refine wp_skip ?_
 refine wp_seq ?_
 refine wp_block ?_
 refine wp_seq ?_
 refine Rl [] [(6, Pr.ex (w32 (0)))] 1 N6 D6 ?_ ?_
 refine Ac ?_ (Az _)
 exact Ap fun aq wq _ hO hR hT => does_assign (V := w32 (0)) rfl eR
 intro a7 wd7 N7 D7 hO hR hA hU
 obtain ⟨t6, _⟩ := hA
 have E7 := E6.trans hR
 have s0_7 := oT hO s0_6 rfl
 have s4_7 := oT hO s4_6 rfl
 have s5_7 := oT hO s5_6 rfl
 have hsxo_7 := hsxo_6.ext' hR
 have hoxo_7 := hoxo_6.ext' hR
 have s6_7 : get a7 6 = w32 (0) := t6
 clear E6 N6 D6 s0_6 s4_6 s5_6 s19_6 hsxo_6 hoxo_6
 refine tail_nil ?_
 refine wp_seq ?_
 refine wp_seq ?_
 refine Rl [] [(7, Pr.ex (i64 ((3 : Nat) : Int)))] 1 N7 D7 ?_ ?_
 refine Ac ?_ (Az _)
 exact Ap fun aq wq _ hO hR hT => does_assign (V := i64 ((3 : Nat) : Int)) rfl eR
 intro a8 wd8 N8 D8 hO hR hA hU
 obtain ⟨t7, _⟩ := hA
 have E8 := E7.trans hR
 have s0_8 := oT hO s0_7 rfl
 have s4_8 := oT hO s4_7 rfl
 have s5_8 := oT hO s5_7 rfl
 have s6_8 := oT hO s6_7 rfl
 have hsxo_8 := hsxo_7.ext' hR
 have hoxo_8 := hoxo_7.ext' hR
 have s7_8 : get a8 7 = i64 ((3 : Nat) : Int) := t7
 clear E7 N7 D7 s0_7 s4_7 s5_7 s6_7 hsxo_7 hoxo_7
 refine tail_nil ?_
 refine wp_block ?_
 refine loop_rounds 5 ?_
 refine round_step ?_
 refine wp_seq ?_
 refine wp_seq ?_
 refine Rl [] [(22, Pr.ex (i64 ((3 : Nat) : Int))), (23, Pr.ex (Value.bool (true)))] 2 N8 D8 ?_ ?_
 refine Ac ?_ (Ac ?_ (Az _))
 exact Am s7_8 rfl fun _ => rfl
 exact Ap fun aq wq _ hO hR hT => does_geq (a := ((3 : Nat) : Int)) (b := ((0 : Nat) : Int)) (hT 22 rfl rfl) rfl eR
 intro a9 wd9 N9 D9 hO hR hA hU
 obtain ⟨_, t23, _⟩ := hA
 have E9 := E8.trans hR
 have s0_9 := oT hO s0_8 rfl
 have s4_9 := oT hO s4_8 rfl
 have s5_9 := oT hO s5_8 rfl
 have s6_9 := oT hO s6_8 rfl
 have s7_9 := oT hO s7_8 rfl
 have hsxo_9 := hsxo_8.ext' hR
 have hoxo_9 := hoxo_8.ext' hR
 have s23_9 : get a9 23 = Value.bool (true) := t23
 clear E8 N8 D8 s0_8 s4_8 s5_8 s6_8 s7_8 hsxo_8 hoxo_8
 refine tail_nil ?_
 refine wp_ifT s23_9 ?_
 refine wp_skip ?_
 refine wp_seq ?_
 refine wp_block ?_
 refine Rl [] [(26, Pr.ex (w32 (0))), (27, Pr.ex (w32 ((0 : UInt32) * (256 : UInt32)))), (28, Pr.ex (str (s))), (29, Pr.ex (i64 (i : Int))), (30, Pr.ex (i64 ((3 : Nat) : Int))), (31, Pr.ex (i64 ((i + 3 : Nat) : Int))), (32, Pr.ex (w8 (d))), (33, Pr.ex (w32 (UInt32.ofNat (d).toNat))), (34, Pr.ex (w32 (((0 : UInt32) * (256 : UInt32) : UInt32) + (UInt32.ofNat (d).toNat : UInt32))))] 9 N9 D9 ?_ ?_
 refine Ac ?_ (Ac ?_ (Ac ?_ (Ac ?_ (Ac ?_ (Ac ?_ (Ac ?_ (Ac ?_ (Ac ?_ (Az _)))))))))
 exact Am s6_9 rfl fun _ => rfl
 exact Ap fun aq wq _ hO hR hT => does_mul32 (a := (0 : UInt32)) (b := (256 : UInt32)) (hT 26 rfl rfl) rfl eR
 exact Am s0_9 rfl fun _ => rfl
 exact Am s5_9 rfl fun _ => rfl
 exact Am s7_9 rfl fun _ => rfl
 exact Ap fun aq wq _ hO hR hT => does_add (a := (i : Int)) (b := ((3 : Nat) : Int)) (r := ((i + 3 : Nat) : Int)) (hT 29 rfl rfl) (hT 30 rfl rfl) (by omega) (by omega) (by omega) eR
 exact Ap fun aq wq _ hO hR hT => does_indexStr (l := s) (i := ((i + 3 : Nat) : Int)) (c := d) Tryd.underlying9 (hT 28 rfl rfl) (hT 31 rfl rfl) (by omega) (by have h := drop_get hm4 3; exact h) eR
 exact Ap fun aq wq _ hO hR hT => does_conv ⟨_, Tryd.underlying5⟩ Tryd.underlying22 (hT 32 rfl rfl) (wrap_u32 _) eR
 exact Ap fun aq wq _ hO hR hT => does_add32 (a := ((0 : UInt32) * (256 : UInt32) : UInt32)) (b := (UInt32.ofNat (d).toNat : UInt32)) (hT 27 rfl rfl) (hT 33 rfl rfl) eR
 intro a10 wd10 N10 D10 hO hR hA hU
 obtain ⟨_, _, _, _, _, _, _, _, t34, _⟩ := hA
 have E10 := E9.trans hR
 have s0_10 := oT hO s0_9 rfl
 have s4_10 := oT hO s4_9 rfl
 have s5_10 := oT hO s5_9 rfl
 have s6_10 := oT hO s6_9 rfl
 have s7_10 := oT hO s7_9 rfl
 have hsxo_10 := hsxo_9.ext' hR
 have hoxo_10 := hoxo_9.ext' hR
 have s34_10 : get a10 34 = w32 (((0 : UInt32) * (256 : UInt32) : UInt32) + (UInt32.ofNat (d).toNat : UInt32)) := t34
 clear E9 N9 D9 s0_9 s4_9 s5_9 s6_9 s7_9 s23_9 hsxo_9 hoxo_9
 refine tail_put rfl rfl N10 D10 (by decide) (does_assign (V := w32 (((0 : UInt32) * (256 : UInt32) : UInt32) + (UInt32.ofNat (d).toNat : UInt32))) s34_10 (fun a11 N11 D11 hv hO => ?_))
 have s6_11 := hv
 have s0_11 := oT hO s0_10 rfl
 have s4_11 := oT hO s4_10 rfl
 have s5_11 := oT hO s5_10 rfl
 have s7_11 := oT hO s7_10 rfl
 clear hO hv N10 D10 s0_10 s4_10 s5_10 s7_10 s34_10 s6_10
 refine tail_nil ?_
 refine Rl [] [(24, Pr.ex (i64 ((3 : Nat) : Int))), (25, Pr.ex (i64 ((2 : Nat) : Int)))] 2 N11 D11 ?_ ?_
 refine Ac ?_ (Ac ?_ (Az _))
 exact Am s7_11 rfl fun _ => rfl
 exact Ap fun aq wq _ hO hR hT => does_sub (a := ((3 : Nat) : Int)) (b := ((1 : Nat) : Int)) (r := ((2 : Nat) : Int)) (hT 24 rfl rfl) rfl (by decide) (by decide) (by decide) eR
 intro a12 wd12 N12 D12 hO hR hA hU
 obtain ⟨_, t25, _⟩ := hA
 have E12 := E10.trans hR
 have s0_12 := oT hO s0_11 rfl
 have s4_12 := oT hO s4_11 rfl
 have s5_12 := oT hO s5_11 rfl
 have s6_12 := oT hO s6_11 rfl
 have s7_12 := oT hO s7_11 rfl
 have hsxo_12 := hsxo_10.ext' hR
 have hoxo_12 := hoxo_10.ext' hR
 have s25_12 : get a12 25 = i64 ((2 : Nat) : Int) := t25
 clear E10 N11 D11 s0_11 s4_11 s5_11 s6_11 s7_11 hsxo_10 hoxo_10
 refine tail_put rfl rfl N12 D12 (by decide) (does_assign (V := i64 ((2 : Nat) : Int)) s25_12 (fun a13 N13 D13 hv hO => ?_))
 have s7_13 := hv
 have s0_13 := oT hO s0_12 rfl
 have s4_13 := oT hO s4_12 rfl
 have s5_13 := oT hO s5_12 rfl
 have s6_13 := oT hO s6_12 rfl
 clear hO hv N12 D12 s0_12 s4_12 s5_12 s6_12 s25_12 s7_12
 refine tail_nil ?_
 refine round_step ?_
 refine wp_seq ?_
 refine wp_seq ?_
 refine Rl [] [(22, Pr.ex (i64 ((2 : Nat) : Int))), (23, Pr.ex (Value.bool (true)))] 2 N13 D13 ?_ ?_
 refine Ac ?_ (Ac ?_ (Az _))
 exact Am s7_13 rfl fun _ => rfl
 exact Ap fun aq wq _ hO hR hT => does_geq (a := ((2 : Nat) : Int)) (b := ((0 : Nat) : Int)) (hT 22 rfl rfl) rfl eR
 intro a14 wd14 N14 D14 hO hR hA hU
 obtain ⟨_, t23, _⟩ := hA
 have E14 := E12.trans hR
 have s0_14 := oT hO s0_13 rfl
 have s4_14 := oT hO s4_13 rfl
 have s5_14 := oT hO s5_13 rfl
 have s6_14 := oT hO s6_13 rfl
 have s7_14 := oT hO s7_13 rfl
 have hsxo_14 := hsxo_12.ext' hR
 have hoxo_14 := hoxo_12.ext' hR
 have s23_14 : get a14 23 = Value.bool (true) := t23
 clear E12 N13 D13 s0_13 s4_13 s5_13 s6_13 s7_13 hsxo_12 hoxo_12
 refine tail_nil ?_
 refine wp_ifT s23_14 ?_
 refine wp_skip ?_
 refine wp_seq ?_
 refine wp_block ?_
 refine Rl [] [(26, Pr.ex (w32 (((0 : UInt32) * (256 : UInt32) : UInt32) + (UInt32.ofNat (d).toNat : UInt32)))), (27, Pr.ex (w32 ((((0 : UInt32) * (256 : UInt32) : UInt32) + (UInt32.ofNat (d).toNat : UInt32) : UInt32) * (256 : UInt32)))), (28, Pr.ex (str (s))), (29, Pr.ex (i64 (i : Int))), (30, Pr.ex (i64 ((2 : Nat) : Int))), (31, Pr.ex (i64 ((i + 2 : Nat) : Int))), (32, Pr.ex (w8 (c))), (33, Pr.ex (w32 (UInt32.ofNat (c).toNat))), (34, Pr.ex (w32 (((((0 : UInt32) * (256 : UInt32) : UInt32) + (UInt32.ofNat (d).toNat : UInt32) : UInt32) * (256 : UInt32) : UInt32) + (UInt32.ofNat (c).toNat : UInt32))))] 9 N14 D14 ?_ ?_
 refine Ac ?_ (Ac ?_ (Ac ?_ (Ac ?_ (Ac ?_ (Ac ?_ (Ac ?_ (Ac ?_ (Ac ?_ (Az _)))))))))
 exact Am s6_14 rfl fun _ => rfl
 exact Ap fun aq wq _ hO hR hT => does_mul32 (a := (((0 : UInt32) * (256 : UInt32) : UInt32) + (UInt32.ofNat (d).toNat : UInt32) : UInt32)) (b := (256 : UInt32)) (hT 26 rfl rfl) rfl eR
 exact Am s0_14 rfl fun _ => rfl
 exact Am s5_14 rfl fun _ => rfl
 exact Am s7_14 rfl fun _ => rfl
 exact Ap fun aq wq _ hO hR hT => does_add (a := (i : Int)) (b := ((2 : Nat) : Int)) (r := ((i + 2 : Nat) : Int)) (hT 29 rfl rfl) (hT 30 rfl rfl) (by omega) (by omega) (by omega) eR
 exact Ap fun aq wq _ hO hR hT => does_indexStr (l := s) (i := ((i + 2 : Nat) : Int)) (c := c) Tryd.underlying9 (hT 28 rfl rfl) (hT 31 rfl rfl) (by omega) (by have h := drop_get hm4 2; exact h) eR
 exact Ap fun aq wq _ hO hR hT => does_conv ⟨_, Tryd.underlying5⟩ Tryd.underlying22 (hT 32 rfl rfl) (wrap_u32 _) eR
 exact Ap fun aq wq _ hO hR hT => does_add32 (a := ((((0 : UInt32) * (256 : UInt32) : UInt32) + (UInt32.ofNat (d).toNat : UInt32) : UInt32) * (256 : UInt32) : UInt32)) (b := (UInt32.ofNat (c).toNat : UInt32)) (hT 27 rfl rfl) (hT 33 rfl rfl) eR
 intro a15 wd15 N15 D15 hO hR hA hU
 obtain ⟨_, _, _, _, _, _, _, _, t34, _⟩ := hA
 have E15 := E14.trans hR
 have s0_15 := oT hO s0_14 rfl
 have s4_15 := oT hO s4_14 rfl
 have s5_15 := oT hO s5_14 rfl
 have s6_15 := oT hO s6_14 rfl
 have s7_15 := oT hO s7_14 rfl
 have hsxo_15 := hsxo_14.ext' hR
 have hoxo_15 := hoxo_14.ext' hR
 have s34_15 : get a15 34 = w32 (((((0 : UInt32) * (256 : UInt32) : UInt32) + (UInt32.ofNat (d).toNat : UInt32) : UInt32) * (256 : UInt32) : UInt32) + (UInt32.ofNat (c).toNat : UInt32)) := t34
 clear E14 N14 D14 s0_14 s4_14 s5_14 s6_14 s7_14 s23_14 hsxo_14 hoxo_14
 refine tail_put rfl rfl N15 D15 (by decide) (does_assign (V := w32 (((((0 : UInt32) * (256 : UInt32) : UInt32) + (UInt32.ofNat (d).toNat : UInt32) : UInt32) * (256 : UInt32) : UInt32) + (UInt32.ofNat (c).toNat : UInt32))) s34_15 (fun a16 N16 D16 hv hO => ?_))
 have s6_16 := hv
 have s0_16 := oT hO s0_15 rfl
 have s4_16 := oT hO s4_15 rfl
 have s5_16 := oT hO s5_15 rfl
 have s7_16 := oT hO s7_15 rfl
 clear hO hv N15 D15 s0_15 s4_15 s5_15 s7_15 s34_15 s6_15
 refine tail_nil ?_
 refine Rl [] [(24, Pr.ex (i64 ((2 : Nat) : Int))), (25, Pr.ex (i64 ((1 : Nat) : Int)))] 2 N16 D16 ?_ ?_
 refine Ac ?_ (Ac ?_ (Az _))
 exact Am s7_16 rfl fun _ => rfl
 exact Ap fun aq wq _ hO hR hT => does_sub (a := ((2 : Nat) : Int)) (b := ((1 : Nat) : Int)) (r := ((1 : Nat) : Int)) (hT 24 rfl rfl) rfl (by decide) (by decide) (by decide) eR
 intro a17 wd17 N17 D17 hO hR hA hU
 obtain ⟨_, t25, _⟩ := hA
 have E17 := E15.trans hR
 have s0_17 := oT hO s0_16 rfl
 have s4_17 := oT hO s4_16 rfl
 have s5_17 := oT hO s5_16 rfl
 have s6_17 := oT hO s6_16 rfl
 have s7_17 := oT hO s7_16 rfl
 have hsxo_17 := hsxo_15.ext' hR
 have hoxo_17 := hoxo_15.ext' hR
 have s25_17 : get a17 25 = i64 ((1 : Nat) : Int) := t25
 clear E15 N16 D16 s0_16 s4_16 s5_16 s6_16 s7_16 hsxo_15 hoxo_15
 refine tail_put rfl rfl N17 D17 (by decide) (does_assign (V := i64 ((1 : Nat) : Int)) s25_17 (fun a18 N18 D18 hv hO => ?_))
 have s7_18 := hv
 have s0_18 := oT hO s0_17 rfl
 have s4_18 := oT hO s4_17 rfl
 have s5_18 := oT hO s5_17 rfl
 have s6_18 := oT hO s6_17 rfl
 clear hO hv N17 D17 s0_17 s4_17 s5_17 s6_17 s25_17 s7_17
 refine tail_nil ?_
 refine round_step ?_
 refine wp_seq ?_
 refine wp_seq ?_
 refine Rl [] [(22, Pr.ex (i64 ((1 : Nat) : Int))), (23, Pr.ex (Value.bool (true)))] 2 N18 D18 ?_ ?_
 refine Ac ?_ (Ac ?_ (Az _))
 exact Am s7_18 rfl fun _ => rfl
 exact Ap fun aq wq _ hO hR hT => does_geq (a := ((1 : Nat) : Int)) (b := ((0 : Nat) : Int)) (hT 22 rfl rfl) rfl eR
 intro a19 wd19 N19 D19 hO hR hA hU
 obtain ⟨_, t23, _⟩ := hA
 have E19 := E17.trans hR
 have s0_19 := oT hO s0_18 rfl
 have s4_19 := oT hO s4_18 rfl
 have s5_19 := oT hO s5_18 rfl
 have s6_19 := oT hO s6_18 rfl
 have s7_19 := oT hO s7_18 rfl
 have hsxo_19 := hsxo_17.ext' hR
 have hoxo_19 := hoxo_17.ext' hR
 have s23_19 : get a19 23 = Value.bool (true) := t23
 clear E17 N18 D18 s0_18 s4_18 s5_18 s6_18 s7_18 hsxo_17 hoxo_17
 refine tail_nil ?_
 refine wp_ifT s23_19 ?_
 refine wp_skip ?_
 refine wp_seq ?_
 refine wp_block ?_
 refine Rl [] [(26, Pr.ex (w32 (((((0 : UInt32) * (256 : UInt32) : UInt32) + (UInt32.ofNat (d).toNat : UInt32) : UInt32) * (256 : UInt32) : UInt32) + (UInt32.ofNat (c).toNat : UInt32)))), (27, Pr.ex (w32 ((((((0 : UInt32) * (256 : UInt32) : UInt32) + (UInt32.ofNat (d).toNat : UInt32) : UInt32) * (256 : UInt32) : UInt32) + (UInt32.ofNat (c).toNat : UInt32) : UInt32) * (256 : UInt32)))), (28, Pr.ex (str (s))), (29, Pr.ex (i64 (i : Int))), (30, Pr.ex (i64 ((1 : Nat) : Int))), (31, Pr.ex (i64 ((i + 1 : Nat) : Int))), (32, Pr.ex (w8 (b))), (33, Pr.ex (w32 (UInt32.ofNat (b).toNat))), (34, Pr.ex (w32 (((((((0 : UInt32) * (256 : UInt32) : UInt32) + (UInt32.ofNat (d).toNat : UInt32) : UInt32) * (256 : UInt32) : UInt32) + (UInt32.ofNat (c).toNat : UInt32) : UInt32) * (256 : UInt32) : UInt32) + (UInt32.ofNat (b).toNat : UInt32))))] 9 N19 D19 ?_ ?_
 refine Ac ?_ (Ac ?_ (Ac ?_ (Ac ?_ (Ac ?_ (Ac ?_ (Ac ?_ (Ac ?_ (Ac ?_ (Az _)))))))))
 exact Am s6_19 rfl fun _ => rfl
 exact Ap fun aq wq _ hO hR hT => does_mul32 (a := (((((0 : UInt32) * (256 : UInt32) : UInt32) + (UInt32.ofNat (d).toNat : UInt32) : UInt32) * (256 : UInt32) : UInt32) + (UInt32.ofNat (c).toNat : UInt32) : UInt32)) (b := (256 : UInt32)) (hT 26 rfl rfl) rfl eR
 exact Am s0_19 rfl fun _ => rfl
 exact Am s5_19 rfl fun _ => rfl
 exact Am s7_19 rfl fun _ => rfl
 exact Ap fun aq wq _ hO hR hT => does_add (a := (i : Int)) (b := ((1 : Nat) : Int)) (r := ((i + 1 : Nat) : Int)) (hT 29 rfl rfl) (hT 30 rfl rfl) (by omega) (by omega) (by omega) eR
 exact Ap fun aq wq _ hO hR hT => does_indexStr (l := s) (i := ((i + 1 : Nat) : Int)) (c := b) Tryd.underlying9 (hT 28 rfl rfl) (hT 31 rfl rfl) (by omega) (by have h := drop_get hm4 1; exact h) eR
 exact Ap fun aq wq _ hO hR hT => does_conv ⟨_, Tryd.underlying5⟩ Tryd.underlying22 (hT 32 rfl rfl) (wrap_u32 _) eR
 exact Ap fun aq wq _ hO hR hT => does_add32 (a := ((((((0 : UInt32) * (256 : UInt32) : UInt32) + (UInt32.ofNat (d).toNat : UInt32) : UInt32) * (256 : UInt32) : UInt32) + (UInt32.ofNat (c).toNat : UInt32) : UInt32) * (256 : UInt32) : UInt32)) (b := (UInt32.ofNat (b).toNat : UInt32)) (hT 27 rfl rfl) (hT 33 rfl rfl) eR
 intro a20 wd20 N20 D20 hO hR hA hU
 obtain ⟨_, _, _, _, _, _, _, _, t34, _⟩ := hA
 have E20 := E19.trans hR
 have s0_20 := oT hO s0_19 rfl
 have s4_20 := oT hO s4_19 rfl
 have s5_20 := oT hO s5_19 rfl
 have s6_20 := oT hO s6_19 rfl
 have s7_20 := oT hO s7_19 rfl
 have hsxo_20 := hsxo_19.ext' hR
 have hoxo_20 := hoxo_19.ext' hR
 have s34_20 : get a20 34 = w32 (((((((0 : UInt32) * (256 : UInt32) : UInt32) + (UInt32.ofNat (d).toNat : UInt32) : UInt32) * (256 : UInt32) : UInt32) + (UInt32.ofNat (c).toNat : UInt32) : UInt32) * (256 : UInt32) : UInt32) + (UInt32.ofNat (b).toNat : UInt32)) := t34
 clear E19 N19 D19 s0_19 s4_19 s5_19 s6_19 s7_19 s23_19 hsxo_19 hoxo_19
 refine tail_put rfl rfl N20 D20 (by decide) (does_assign (V := w32 (((((((0 : UInt32) * (256 : UInt32) : UInt32) + (UInt32.ofNat (d).toNat : UInt32) : UInt32) * (256 : UInt32) : UInt32) + (UInt32.ofNat (c).toNat : UInt32) : UInt32) * (256 : UInt32) : UInt32) + (UInt32.ofNat (b).toNat : UInt32))) s34_20 (fun a21 N21 D21 hv hO => ?_))
 have s6_21 := hv
 have s0_21 := oT hO s0_20 rfl
 have s4_21 := oT hO s4_20 rfl
 have s5_21 := oT hO s5_20 rfl
 have s7_21 := oT hO s7_20 rfl
 clear hO hv N20 D20 s0_20 s4_20 s5_20 s7_20 s34_20 s6_20
 refine tail_nil ?_
 refine Rl [] [(24, Pr.ex (i64 ((1 : Nat) : Int))), (25, Pr.ex (i64 ((0 : Nat) : Int)))] 2 N21 D21 ?_ ?_
 refine Ac ?_ (Ac ?_ (Az _))
 exact Am s7_21 rfl fun _ => rfl
 exact Ap fun aq wq _ hO hR hT => does_sub (a := ((1 : Nat) : Int)) (b := ((1 : Nat) : Int)) (r := ((0 : Nat) : Int)) (hT 24 rfl rfl) rfl (by decide) (by decide) (by decide) eR
 intro a22 wd22 N22 D22 hO hR hA hU
 obtain ⟨_, t25, _⟩ := hA
 have E22 := E20.trans hR
 have s0_22 := oT hO s0_21 rfl
 have s4_22 := oT hO s4_21 rfl
 have s5_22 := oT hO s5_21 rfl
 have s6_22 := oT hO s6_21 rfl
 have s7_22 := oT hO s7_21 rfl
 have hsxo_22 := hsxo_20.ext' hR
 have hoxo_22 := hoxo_20.ext' hR
 have s25_22 : get a22 25 = i64 ((0 : Nat) : Int) := t25
 clear E20 N21 D21 s0_21 s4_21 s5_21 s6_21 s7_21 hsxo_20 hoxo_20
 refine tail_put rfl rfl N22 D22 (by decide) (does_assign (V := i64 ((0 : Nat) : Int)) s25_22 (fun a23 N23 D23 hv hO => ?_))
 have s7_23 := hv
 have s0_23 := oT hO s0_22 rfl
 have s4_23 := oT hO s4_22 rfl
 have s5_23 := oT hO s5_22 rfl
 have s6_23 := oT hO s6_22 rfl
 clear hO hv N22 D22 s0_22 s4_22 s5_22 s6_22 s25_22 s7_22
 refine tail_nil ?_
 refine round_step ?_
 refine wp_seq ?_
 refine wp_seq ?_
 refine Rl [] [(22, Pr.ex (i64 ((0 : Nat) : Int))), (23, Pr.ex (Value.bool (true)))] 2 N23 D23 ?_ ?_
 refine Ac ?_ (Ac ?_ (Az _))
 exact Am s7_23 rfl fun _ => rfl
 exact Ap fun aq wq _ hO hR hT => does_geq (a := ((0 : Nat) : Int)) (b := ((0 : Nat) : Int)) (hT 22 rfl rfl) rfl eR
 intro a24 wd24 N24 D24 hO hR hA hU
 obtain ⟨_, t23, _⟩ := hA
 have E24 := E22.trans hR
 have s0_24 := oT hO s0_23 rfl
 have s4_24 := oT hO s4_23 rfl
 have s5_24 := oT hO s5_23 rfl
 have s6_24 := oT hO s6_23 rfl
 have s7_24 := oT hO s7_23 rfl
 have hsxo_24 := hsxo_22.ext' hR
 have hoxo_24 := hoxo_22.ext' hR
 have s23_24 : get a24 23 = Value.bool (true) := t23
 clear E22 N23 D23 s0_23 s4_23 s5_23 s6_23 s7_23 hsxo_22 hoxo_22
 refine tail_nil ?_
 refine wp_ifT s23_24 ?_
 refine wp_skip ?_
 refine wp_seq ?_
 refine wp_block ?_
 refine Rl [] [(26, Pr.ex (w32 (((((((0 : UInt32) * (256 : UInt32) : UInt32) + (UInt32.ofNat (d).toNat : UInt32) : UInt32) * (256 : UInt32) : UInt32) + (UInt32.ofNat (c).toNat : UInt32) : UInt32) * (256 : UInt32) : UInt32) + (UInt32.ofNat (b).toNat : UInt32)))), (27, Pr.ex (w32 ((((((((0 : UInt32) * (256 : UInt32) : UInt32) + (UInt32.ofNat (d).toNat : UInt32) : UInt32) * (256 : UInt32) : UInt32) + (UInt32.ofNat (c).toNat : UInt32) : UInt32) * (256 : UInt32) : UInt32) + (UInt32.ofNat (b).toNat : UInt32) : UInt32) * (256 : UInt32)))), (28, Pr.ex (str (s))), (29, Pr.ex (i64 (i : Int))), (30, Pr.ex (i64 ((0 : Nat) : Int))), (31, Pr.ex (i64 ((i + 0 : Nat) : Int))), (32, Pr.ex (w8 (a))), (33, Pr.ex (w32 (UInt32.ofNat (a).toNat))), (34, Pr.ex (w32 (((((((((0 : UInt32) * (256 : UInt32) : UInt32) + (UInt32.ofNat (d).toNat : UInt32) : UInt32) * (256 : UInt32) : UInt32) + (UInt32.ofNat (c).toNat : UInt32) : UInt32) * (256 : UInt32) : UInt32) + (UInt32.ofNat (b).toNat : UInt32) : UInt32) * (256 : UInt32) : UInt32) + (UInt32.ofNat (a).toNat : UInt32))))] 9 N24 D24 ?_ ?_
 refine Ac ?_ (Ac ?_ (Ac ?_ (Ac ?_ (Ac ?_ (Ac ?_ (Ac ?_ (Ac ?_ (Ac ?_ (Az _)))))))))
 exact Am s6_24 rfl fun _ => rfl
 exact Ap fun aq wq _ hO hR hT => does_mul32 (a := (((((((0 : UInt32) * (256 : UInt32) : UInt32) + (UInt32.ofNat (d).toNat : UInt32) : UInt32) * (256 : UInt32) : UInt32) + (UInt32.ofNat (c).toNat : UInt32) : UInt32) * (256 : UInt32) : UInt32) + (UInt32.ofNat (b).toNat : UInt32) : UInt32)) (b := (256 : UInt32)) (hT 26 rfl rfl) rfl eR
 exact Am s0_24 rfl fun _ => rfl
 exact Am s5_24 rfl fun _ => rfl
 exact Am s7_24 rfl fun _ => rfl
 exact Ap fun aq wq _ hO hR hT => does_add (a := (i : Int)) (b := ((0 : Nat) : Int)) (r := ((i + 0 : Nat) : Int)) (hT 29 rfl rfl) (hT 30 rfl rfl) (by omega) (by omega) (by omega) eR
 exact Ap fun aq wq _ hO hR hT => does_indexStr (l := s) (i := ((i + 0 : Nat) : Int)) (c := a) Tryd.underlying9 (hT 28 rfl rfl) (hT 31 rfl rfl) (by omega) (by have h := drop_get hm4 0; exact h) eR
 exact Ap fun aq wq _ hO hR hT => does_conv ⟨_, Tryd.underlying5⟩ Tryd.underlying22 (hT 32 rfl rfl) (wrap_u32 _) eR
 exact Ap fun aq wq _ hO hR hT => does_add32 (a := ((((((((0 : UInt32) * (256 : UInt32) : UInt32) + (UInt32.ofNat (d).toNat : UInt32) : UInt32) * (256 : UInt32) : UInt32) + (UInt32.ofNat (c).toNat : UInt32) : UInt32) * (256 : UInt32) : UInt32) + (UInt32.ofNat (b).toNat : UInt32) : UInt32) * (256 : UInt32) : UInt32)) (b := (UInt32.ofNat (a).toNat : UInt32)) (hT 27 rfl rfl) (hT 33 rfl rfl) eR
 intro a25 wd25 N25 D25 hO hR hA hU
 obtain ⟨_, _, _, _, _, _, _, _, t34, _⟩ := hA
 have E25 := E24.trans hR
 have s0_25 := oT hO s0_24 rfl
 have s4_25 := oT hO s4_24 rfl
 have s5_25 := oT hO s5_24 rfl
 have s6_25 := oT hO s6_24 rfl
 have s7_25 := oT hO s7_24 rfl
 have hsxo_25 := hsxo_24.ext' hR
 have hoxo_25 := hoxo_24.ext' hR
 have s34_25 : get a25 34 = w32 (((((((((0 : UInt32) * (256 : UInt32) : UInt32) + (UInt32.ofNat (d).toNat : UInt32) : UInt32) * (256 : UInt32) : UInt32) + (UInt32.ofNat (c).toNat : UInt32) : UInt32) * (256 : UInt32) : UInt32) + (UInt32.ofNat (b).toNat : UInt32) : UInt32) * (256 : UInt32) : UInt32) + (UInt32.ofNat (a).toNat : UInt32)) := t34
 clear E24 N24 D24 s0_24 s4_24 s5_24 s6_24 s7_24 s23_24 hsxo_24 hoxo_24
 refine tail_put rfl rfl N25 D25 (by decide) (does_assign (V := w32 (((((((((0 : UInt32) * (256 : UInt32) : UInt32) + (UInt32.ofNat (d).toNat : UInt32) : UInt32) * (256 : UInt32) : UInt32) + (UInt32.ofNat (c).toNat : UInt32) : UInt32) * (256 : UInt32) : UInt32) + (UInt32.ofNat (b).toNat : UInt32) : UInt32) * (256 : UInt32) : UInt32) + (UInt32.ofNat (a).toNat : UInt32))) s34_25 (fun a26 N26 D26 hv hO => ?_))
 have s6_26 := hv
 have s0_26 := oT hO s0_25 rfl
 have s4_26 := oT hO s4_25 rfl
 have s5_26 := oT hO s5_25 rfl
 have s7_26 := oT hO s7_25 rfl
 clear hO hv N25 D25 s0_25 s4_25 s5_25 s7_25 s34_25 s6_25
 refine tail_nil ?_
 refine Rl [] [(24, Pr.ex (i64 ((0 : Nat) : Int))), (25, Pr.ex (i64 (-1)))] 2 N26 D26 ?_ ?_
 refine Ac ?_ (Ac ?_ (Az _))
 exact Am s7_26 rfl fun _ => rfl
 exact Ap fun aq wq _ hO hR hT => does_sub (a := ((0 : Nat) : Int)) (b := ((1 : Nat) : Int)) (r := -1) (hT 24 rfl rfl) rfl (by decide) (by decide) (by decide) eR
 intro a27 wd27 N27 D27 hO hR hA hU
 obtain ⟨_, t25, _⟩ := hA
 have E27 := E25.trans hR
 have s0_27 := oT hO s0_26 rfl
 have s4_27 := oT hO s4_26 rfl
 have s5_27 := oT hO s5_26 rfl
 have s6_27 := oT hO s6_26 rfl
 have s7_27 := oT hO s7_26 rfl
 have hsxo_27 := hsxo_25.ext' hR
 have hoxo_27 := hoxo_25.ext' hR
 have s25_27 : get a27 25 = i64 (-1) := t25
 clear E25 N26 D26 s0_26 s4_26 s5_26 s6_26 s7_26 hsxo_25 hoxo_25
 refine tail_put rfl rfl N27 D27 (by decide) (does_assign (V := i64 (-1)) s25_27 (fun a28 N28 D28 hv hO => ?_))
 have s7_28 := hv
 have s0_28 := oT hO s0_27 rfl
 have s4_28 := oT hO s4_27 rfl
 have s5_28 := oT hO s5_27 rfl
 have s6_28 := oT hO s6_27 rfl
 clear hO hv N27 D27 s0_27 s4_27 s5_27 s6_27 s25_27 s7_27
 refine tail_nil ?_
 refine round_step ?_
 refine wp_seq ?_
 refine wp_seq ?_
 refine Rl [] [(22, Pr.ex (i64 (-1))), (23, Pr.ex (Value.bool (false)))] 2 N28 D28 ?_ ?_
 refine Ac ?_ (Ac ?_ (Az _))
 exact Am s7_28 rfl fun _ => rfl
 exact Ap fun aq wq _ hO hR hT => does_geq (a := -1) (b := ((0 : Nat) : Int)) (hT 22 rfl rfl) rfl eR
 intro a29 wd29 N29 D29 hO hR hA hU
 obtain ⟨_, t23, _⟩ := hA
 have E29 := E27.trans hR
 have s0_29 := oT hO s0_28 rfl
 have s4_29 := oT hO s4_28 rfl
 have s5_29 := oT hO s5_28 rfl
 have s6_29 := oT hO s6_28 rfl
 have s7_29 := oT hO s7_28 rfl
 have hsxo_29 := hsxo_27.ext' hR
 have hoxo_29 := hoxo_27.ext' hR
 have s23_29 : get a29 23 = Value.bool (false) := t23
 clear E27 N28 D28 s0_28 s4_28 s5_28 s6_28 s7_28 hsxo_27 hoxo_27
 refine tail_nil ?_
 refine wp_ifF s23_29 ?_
 refine wp_exit ?_
 refine Rl [] [(35, Pr.ex (xo)), (36, Pr.ex (w32 (((((((((0 : UInt32) * (256 : UInt32) : UInt32) + (UInt32.ofNat (d).toNat : UInt32) : UInt32) * (256 : UInt32) : UInt32) + (UInt32.ofNat (c).toNat : UInt32) : UInt32) * (256 : UInt32) : UInt32) + (UInt32.ofNat (b).toNat : UInt32) : UInt32) * (256 : UInt32) : UInt32) + (UInt32.ofNat (a).toNat : UInt32)))), (37, Pr.own' W32 wd29.heap.size 22 ([((((((((0 : UInt32) * (256 : UInt32) : UInt32) + (UInt32.ofNat (d).toNat : UInt32) : UInt32) * (256 : UInt32) : UInt32) + (UInt32.ofNat (c).toNat : UInt32) : UInt32) * (256 : UInt32) : UInt32) + (UInt32.ofNat (b).toNat : UInt32) : UInt32) * (256 : UInt32) : UInt32) + (UInt32.ofNat (a).toNat : UInt32)]))] 3 N29 D29 ?_ ?_
 refine Ac ?_ (Ac ?_ (Ac ?_ (Az _)))
 exact Am s4_29 rfl fun _ => rfl
 exact Am s6_29 rfl fun _ => rfl
 exact Ap fun aq wq _ hO hR hT => does_slice1 (T := W32) (X := ((((((((0 : UInt32) * (256 : UInt32) : UInt32) + (UInt32.ofNat (d).toNat : UInt32) : UInt32) * (256 : UInt32) : UInt32) + (UInt32.ofNat (c).toNat : UInt32) : UInt32) * (256 : UInt32) : UInt32) + (UInt32.ofNat (b).toNat : UInt32) : UInt32) * (256 : UInt32) : UInt32) + (UInt32.ofNat (a).toNat : UInt32)) (V := w32 (((((((((0 : UInt32) * (256 : UInt32) : UInt32) + (UInt32.ofNat (d).toNat : UInt32) : UInt32) * (256 : UInt32) : UInt32) + (UInt32.ofNat (c).toNat : UInt32) : UInt32) * (256 : UInt32) : UInt32) + (UInt32.ofNat (b).toNat : UInt32) : UInt32) * (256 : UInt32) : UInt32) + (UInt32.ofNat (a).toNat : UInt32))) app_58 rfl (by decide) (hT 36 rfl rfl) rfl (fun v w2 he _ ho => ⟨he, OwnT.base ho hR.size'⟩)
 intro a30 wd30 N30 D30 hO hR hA hU
 obtain ⟨t35, _, t37, _⟩ := hA
 have E30 := E29.trans hR
 have s0_30 := oT hO s0_29 rfl
 have s4_30 := oT hO s4_29 rfl
 have s5_30 := oT hO s5_29 rfl
 have hsxo_30 := hsxo_29.ext' hR
 have hoxo_30 := hoxo_29.ext' hR
 have s35_30 : get a30 35 = xo := t35
 obtain ⟨x37, s37_30⟩ : ∃ x, get a30 37 = x := ⟨_, rfl⟩
 replace t37 : OwnT W32 wd29.heap.size 22 ([((((((((0 : UInt32) * (256 : UInt32) : UInt32) + (UInt32.ofNat (d).toNat : UInt32) : UInt32) * (256 : UInt32) : UInt32) + (UInt32.ofNat (c).toNat : UInt32) : UInt32) * (256 : UInt32) : UInt32) + (UInt32.ofNat (b).toNat : UInt32) : UInt32) * (256 : UInt32) : UInt32) + (UInt32.ofNat (a).toNat : UInt32)]) x37 wd30 := by rw [← s37_30]; exact t37
 have no_x37_xo := Oo t37 hoxo_29
 have X37_30 := t37.sl.wide (Nat.zero_le _) (.inl rfl)
 have O37_30 := OwnT.base t37 E29.size'
 clear E29 N29 D29 s0_29 s4_29 s5_29 s6_29 s7_29 s23_29 hsxo_29 hoxo_29
 refine tail_put rfl rfl N30 D30 (by decide) (does_append (T := W32) (base := w0.heap.size) (xs := acc) (ys := [((((((((0 : UInt32) * (256 : UInt32) : UInt32) + (UInt32.ofNat (d).toNat : UInt32) : UInt32) * (256 : UInt32) : UInt32) + (UInt32.ofNat (c).toNat : UInt32) : UInt32) * (256 : UInt32) : UInt32) + (UInt32.ofNat (b).toNat : UInt32) : UInt32) * (256 : UInt32) : UInt32) + (UInt32.ofNat (a).toNat : UInt32)]) (v := xo) app_58 s35_30 hoxo_30 (SlT.at s37_30 X37_30) (by simp) (by simp only [List.length_append, List.length_cons, List.length_nil]; omega) (by simp only [List.length_append, List.length_cons, List.length_nil]; omega) E30.size' (fun x38 wd31 hX O38_31 hk a31 N31 D31 hv hO => ?_))
 have E31 := E30.since hX (fun b hb => Nat.le_trans (Nat.le_refl _) (OwnT.block_lt hoxo_30 hb).1)
 have O37_31 := OwnT.ext O37_30 hX (fun k hk e => no_x37_xo k hk e)
 have no_x38_x37 : ∀ k, x38.ownBlock = some k → x37.ownBlock ≠ some k := fun k e e' => (hk k e).elim (fun h => no_x37_xo k e' h) (fun h => Nat.lt_irrefl _ (Nat.lt_of_lt_of_le (OwnT.block_lt O37_30 e').2 h))
 have X37_31 := O37_31.sl.wide (Nat.zero_le _) (.inl rfl)
 have X38_31 := O38_31.sl.wide (Nat.zero_le _) (.inl rfl)
 rw [word_mul] at O38_31 X38_31
 have s38_31 := hv
 have s0_31 := oT hO s0_30 rfl
 have s4_31 := oT hO s4_30 rfl
 have s5_31 := oT hO s5_30 rfl
 clear hO hv hX hk N30 D30 E30 O37_30 s0_30 s4_30 s5_30 s35_30 s37_30
 refine tail_put rfl rfl N31 D31 (by decide) (does_assign (V := x38) s38_31 (fun a32 N32 D32 hv hO => ?_))
 have s4_32 := hv
 have s0_32 := oT hO s0_31 rfl
 have s5_32 := oT hO s5_31 rfl
 clear hO hv N31 D31 s0_31 s5_31 s38_31 s4_31
 refine tail_nil ?_
 refine Rl [] [(20, Pr.ex (i64 (i : Int))), (21, Pr.ex (i64 ((i + 4 : Nat) : Int)))] 2 N32 D32 ?_ ?_
 refine Ac ?_ (Ac ?_ (Az _))
 exact Am s5_32 rfl fun _ => rfl
 exact Ap fun aq wq _ hO hR hT => does_add (a := (i : Int)) (b := ((4 : Nat) : Int)) (r := ((i + 4 : Nat) : Int)) (hT 20 rfl rfl) rfl (by omega) (by omega) (by omega) eR
 intro a33 wd33 N33 D33 hO hR hA hU
 obtain ⟨_, t21, _⟩ := hA
 have E33 := E31.trans hR
 have s0_33 := oT hO s0_32 rfl
 have s4_33 := oT hO s4_32 rfl
 have s5_33 := oT hO s5_32 rfl
 have X37_33 := X37_31.ext' hR
 have X38_33 := X38_31.ext' hR
 have O37_33 := O37_31.ext' hR
 have O38_33 := O38_31.ext' hR
 have s21_33 : get a33 21 = i64 ((i + 4 : Nat) : Int) := t21
 clear E31 N32 D32 s0_32 s4_32 s5_32 X37_31 X38_31 O37_31 O38_31
 refine tail_put rfl rfl N33 D33 (by decide) (does_assign (V := i64 ((i + 4 : Nat) : Int)) s21_33 (fun a34 N34 D34 hv hO => ?_))
 have s5_34 := hv
 have s0_34 := oT hO s0_33 rfl
 have s4_34 := oT hO s4_33 rfl
 clear hO hv N33 D33 s0_33 s4_33 s21_33 s5_33
 refine tail_nil ?_
 exact ⟨_, by omega, i + 4, (acc ++ [word a b c d]), x38, rfl, N34, D34, s0_34, s4_34, s5_34, E33, O38_33, by rw [← hm, words_step hm4, List.append_assoc, drop_four hm4]; rfl, by omega, by omega, by simp only [List.length_append, List.length_cons, List.length_nil]; omega⟩
 have hc1 := of_decide_eq_false hc1
 refine wp_exit ?_
 refine wp_seq ?_
 refine Rl [] [(39, Pr.ex (xo)), (2, Pr.ex (xo)), (3, Pr.ex (i64 ((0 : Nat) : Int)))] 3 N6 D6 ?_ ?_
 refine Ac ?_ (Ac ?_ (Ac ?_ (Az _)))
 exact Am s4_6 rfl fun _ => rfl
 exact Ap fun aq wq _ hO hR hT => does_assign (V := xo) (hT 39 rfl rfl) eR
 exact Ap fun aq wq _ hO hR hT => does_assign (V := i64 ((0 : Nat) : Int)) rfl eR
 intro a35 wd35 N35 D35 hO hR hA hU
 obtain ⟨_, t2, t3, _⟩ := hA
 have E35 := E6.trans hR
 have hsxo_35 := hsxo_6.ext' hR
 have hoxo_35 := hoxo_6.ext' hR
 have s2_35 : get a35 2 = xo := t2
 have s3_35 : get a35 3 = i64 ((0 : Nat) : Int) := t3
 clear E6 N6 D6 s0_6 s4_6 s5_6 s19_6 hsxo_6 hoxo_6
 refine tail_nil ?_
 refine wp_ret ?_
 refine res_two (V1 := xo) (V2 := i64 ((0 : Nat) : Int)) rfl D35 s2_35 s3_35 ?_
 have hz : s.drop i = [] := List.drop_eq_nil_of_le (by omega)
 rw [hz, words_nil (m := []) rfl, List.append_nil] at hm
 have ho := hoxo_35
 rw [hm] at ho
 exact ⟨⟨_, _, rfl, ho, rfl⟩, E35⟩

theorem of_ (s : List UInt8) (w0 : World) (hL : Laid w0) (hn : s.length ≤ 65536) :
    Gives Tryd.prog 22 #[str (s)] w0 (Pr.ex (Dg.val (of s))) := by
 refine enter (N := 37) Tryd.func22 rfl rfl ?_
 intro a0 N0 D0 hA
 have s0_0 : get a0 0 = str (s) := hA 0 _ rfl
 clear hA
 have E0 : Ext w0 w0 := Ext.refl w0
 refine wp_seq ?_
 refine Rl [2] [(2, Pr.box' w0.heap.size 24 [w32 (Dg.zero).a, w32 (Dg.zero).b, w32 (Dg.zero).c, w32 (Dg.zero).d])] 1 N0 D0 ?_ ?_
 refine Ac ?_ (Az _)
 refine Ask.fresh rfl rfl ?_
 intro aq wq hNq hO hR hT
 exact does_alloc zero_24 (fun b w2 he hlo hb => ⟨he, ⟨b, rfl, Nat.le_trans hR.size' hlo, hb⟩, ⟨b, rfl, hlo, hb.lt⟩⟩)
 intro a1 wd1 N1 D1 hO hR hA hU
 obtain ⟨t2, _⟩ := hA
 have E1 := E0.trans hR
 have s0_1 := oT hO s0_0 rfl
 obtain ⟨b2, s2_1, lo_b2, B2_1⟩ := t2
 have fr_b2 : w0.heap.size ≤ b2 := Nat.le_trans E0.size' lo_b2
 clear E0 N0 D0 s0_0
 refine tail_nil ?_
 refine wp_seq ?_
 refine Rl [] [(8, Pr.ex (str (s))), (9, Pr.ex (i64 (s.length : Int))), (10, Pr.ex (w64 (UInt64.ofNat s.length))), (3, Pr.ex (w64 (UInt64.ofNat s.length)))] 4 N1 D1 ?_ ?_
 refine Ac ?_ (Ac ?_ (Ac ?_ (Ac ?_ (Az _))))
 exact Am s0_1 rfl fun _ => rfl
 exact Ap fun aq wq _ hO hR hT => does_lenStr (l := s) Tryd.underlying9 (hT 8 rfl rfl) eR
 exact Ap fun aq wq _ hO hR hT => does_conv ⟨_, Tryd.underlying3⟩ Tryd.underlying71 (hT 9 rfl rfl) (wrap_u64 _) eR
 exact Ap fun aq wq _ hO hR hT => does_assign (V := w64 (UInt64.ofNat s.length)) (hT 10 rfl rfl) eR
 intro a2 wd2 N2 D2 hO hR hA hU
 obtain ⟨_, _, _, t3, _⟩ := hA
 have E2 := E1.trans hR
 have s0_2 := oT hO s0_1 rfl
 have s2_2 := oT hO s2_1 rfl
 have B2_2 := B2_1.ext' hR
 have s3_2 : get a2 3 = w64 (UInt64.ofNat s.length) := t3
 clear E1 N1 D1 s0_1 s2_1 B2_1
 refine tail_nil ?_
 refine wp_seq ?_
 refine Rl [] [(11, Pr.ex (str (s))), (12, Pr.ex (i64 (s.length : Int))), (13, Pr.ex (i64 ((s.length + 1 : Nat) : Int))), (14, Pr.ex (i64 (((s.length + 1) % 16 : Nat) : Int))), (15, Pr.ex (i64 ((24 - ((s.length + 1) % 16) : Nat) : Int))), (16, Pr.ex (i64 (((24 - ((s.length + 1) % 16)) % 16 : Nat) : Int))), (4, Pr.ex (i64 (((24 - ((s.length + 1) % 16)) % 16 : Nat) : Int)))] 7 N2 D2 ?_ ?_
 refine Ac ?_ (Ac ?_ (Ac ?_ (Ac ?_ (Ac ?_ (Ac ?_ (Ac ?_ (Az _)))))))
 exact Am s0_2 rfl fun _ => rfl
 exact Ap fun aq wq _ hO hR hT => does_lenStr (l := s) Tryd.underlying9 (hT 11 rfl rfl) eR
 exact Ap fun aq wq _ hO hR hT => does_add (a := (s.length : Int)) (b := ((1 : Nat) : Int)) (r := ((s.length + 1 : Nat) : Int)) (hT 12 rfl rfl) rfl (by omega) (by omega) (by omega) eR
 exact Ap fun aq wq _ hO hR hT => does_rem (k := .i64) (a := ((s.length + 1 : Nat) : Int)) (b := ((16 : Nat) : Int)) (r := (((s.length + 1) % 16 : Nat) : Int)) (hT 13 rfl rfl) rfl (by omega) (by omega) (by omega) eR
 exact Ap fun aq wq _ hO hR hT => does_sub (a := ((24 : Nat) : Int)) (b := (((s.length + 1) % 16 : Nat) : Int)) (r := ((24 - ((s.length + 1) % 16) : Nat) : Int)) rfl (hT 14 rfl rfl) (by omega) (by omega) (by omega) eR
 exact Ap fun aq wq _ hO hR hT => does_rem (k := .i64) (a := ((24 - ((s.length + 1) % 16) : Nat) : Int)) (b := ((16 : Nat) : Int)) (r := (((24 - ((s.length + 1) % 16)) % 16 : Nat) : Int)) (hT 15 rfl rfl) rfl (by omega) (by omega) (by omega) eR
 exact Ap fun aq wq _ hO hR hT => does_assign (V := i64 (((24 - ((s.length + 1) % 16)) % 16 : Nat) : Int)) (hT 16 rfl rfl) eR
 intro a3 wd3 N3 D3 hO hR hA hU
 obtain ⟨_, _, _, _, _, _, t4, _⟩ := hA
 have E3 := E2.trans hR
 have s0_3 := oT hO s0_2 rfl
 have s2_3 := oT hO s2_2 rfl
 have s3_3 := oT hO s3_2 rfl
 have B2_3 := B2_2.ext' hR
 have s4_3 : get a3 4 = i64 (((24 - ((s.length + 1) % 16)) % 16 : Nat) : Int) := t4
 clear E2 N2 D2 s0_2 s2_2 s3_2 B2_2
 refine tail_nil ?_
 refine wp_seq ?_
 refine Rl [] [(17, Pr.ex (str (s))), (18, Pr.ex (str (s ++ (([128] : List UInt8))))), (19, Pr.ex (i64 (((24 - ((s.length + 1) % 16)) % 16 : Nat) : Int))), (20, Pr.ex (str (List.replicate ((24 - ((s.length + 1) % 16)) % 16) (0 : UInt8)))), (21, Pr.ex (str ((s ++ (([128] : List UInt8))) ++ (List.replicate ((24 - ((s.length + 1) % 16)) % 16) (0 : UInt8))))), (22, Pr.ex (w64 (UInt64.ofNat s.length))), (23, Pr.ex (w32 ((UInt64.ofNat s.length).toUInt32))), (24, Pr.ex (w64 (UInt64.ofNat s.length))), (25, Pr.ex (w64 (UInt64.ofNat ((UInt64.ofNat s.length).toNat / 2 ^ 32)))), (26, Pr.ex (w32 ((UInt64.ofNat ((UInt64.ofNat s.length).toNat / 2 ^ 32)).toUInt32))), (27, Pr.own' W32 wd3.heap.size 22 ([(UInt64.ofNat s.length).toUInt32, (UInt64.ofNat ((UInt64.ofNat s.length).toNat / 2 ^ 32)).toUInt32])), (28, Pr.ex (str (wbytes [(UInt64.ofNat s.length).toUInt32, (UInt64.ofNat ((UInt64.ofNat s.length).toNat / 2 ^ 32)).toUInt32]))), (29, Pr.ex (str (((s ++ (([128] : List UInt8))) ++ (List.replicate ((24 - ((s.length + 1) % 16)) % 16) (0 : UInt8))) ++ (wbytes [(UInt64.ofNat s.length).toUInt32, (UInt64.ofNat ((UInt64.ofNat s.length).toNat / 2 ^ 32)).toUInt32])))), (5, Pr.ex (str (((s ++ (([128] : List UInt8))) ++ (List.replicate ((24 - ((s.length + 1) % 16)) % 16) (0 : UInt8))) ++ (wbytes [(UInt64.ofNat s.length).toUInt32, (UInt64.ofNat ((UInt64.ofNat s.length).toNat / 2 ^ 32)).toUInt32]))))] 14 N3 D3 ?_ ?_
 refine Ac ?_ (Ac ?_ (Ac ?_ (Ac ?_ (Ac ?_ (Ac ?_ (Ac ?_ (Ac ?_ (Ac ?_ (Ac ?_ (Ac ?_ (Ac ?_ (Ac ?_ (Ac ?_ (Az _))))))))))))))
 exact Am s0_3 rfl fun _ => rfl
 exact Ap fun aq wq _ hO hR hT => does_cat (a := s) (b := ([128] : List UInt8)) (hT 17 rfl rfl) rfl (by simp only [List.length_append, List.length_cons, List.length_nil, List.length_replicate, bytes_length]; omega) eR
 exact Am s4_3 rfl fun _ => rfl
 exact Ap fun aq wq _ hO hR hT => does_ret (vs := #[str (([0] : List UInt8)), i64 (((24 - ((s.length + 1) % 16)) % 16 : Nat) : Int)]) call_35 (args2 rfl (hT 19 rfl rfl)) rfl ((repeat_ ((24 - ((s.length + 1) % 16)) % 16) wq (by omega)).mono fun v w2 h => ⟨h.2, h.1⟩)
 exact Ap fun aq wq _ hO hR hT => does_cat (a := s ++ (([128] : List UInt8))) (b := List.replicate ((24 - ((s.length + 1) % 16)) % 16) (0 : UInt8)) (hT 18 rfl rfl) (hT 20 rfl rfl) (by simp only [List.length_append, List.length_cons, List.length_nil, List.length_replicate, bytes_length]; omega) eR
 exact Am s3_3 rfl fun _ => rfl
 exact Ap fun aq wq _ hO hR hT => does_conv ⟨_, Tryd.underlying71⟩ Tryd.underlying22 (hT 22 rfl rfl) (conv_64_32 _) eR
 exact Am s3_3 rfl fun _ => rfl
 exact Ap fun aq wq _ hO hR hT => does_shr64 (a := UInt64.ofNat s.length) (b := 32) (hT 24 rfl rfl) rfl (by decide) eR
 exact Ap fun aq wq _ hO hR hT => does_conv ⟨_, Tryd.underlying71⟩ Tryd.underlying22 (hT 25 rfl rfl) (conv_64_32 _) eR
 exact Ap fun aq wq _ hO hR hT => does_sliceN (T := W32) (xs := [(UInt64.ofNat s.length).toUInt32, (UInt64.ofNat ((UInt64.ofNat s.length).toNat / 2 ^ 32)).toUInt32]) (vs := [w32 ((UInt64.ofNat s.length).toUInt32), w32 ((UInt64.ofNat ((UInt64.ofNat s.length).toNat / 2 ^ 32)).toUInt32)]) app_58 rfl (parts2 (hT 23 rfl rfl) (hT 26 rfl rfl)) rfl (by decide) (by decide) rfl (fun v w2 he _ ho => ⟨he, OwnT.base ho hR.size'⟩)
 exact Ap fun aq wq _ hO hR hT => does_ret (vs := #[get aq 27]) call_20 (args1 rfl) rfl ((bytes_ ([(UInt64.ofNat s.length).toUInt32, (UInt64.ofNat ((UInt64.ofNat s.length).toNat / 2 ^ 32)).toUInt32]) (get aq 27) wq (((OwnT.sl (hT 27 rfl rfl)).wide (Nat.zero_le _) (.inl rfl)).wide (Nat.zero_le _) (.inl rfl)) (by simp)).mono fun v w2 h => ⟨h.2, h.1⟩)
 exact Ap fun aq wq _ hO hR hT => does_cat (a := (s ++ (([128] : List UInt8))) ++ (List.replicate ((24 - ((s.length + 1) % 16)) % 16) (0 : UInt8))) (b := wbytes [(UInt64.ofNat s.length).toUInt32, (UInt64.ofNat ((UInt64.ofNat s.length).toNat / 2 ^ 32)).toUInt32]) (hT 21 rfl rfl) (hT 28 rfl rfl) (by simp only [List.length_append, List.length_cons, List.length_nil, List.length_replicate, bytes_length]; omega) eR
 exact Ap fun aq wq _ hO hR hT => does_assign (V := str (((s ++ (([128] : List UInt8))) ++ (List.replicate ((24 - ((s.length + 1) % 16)) % 16) (0 : UInt8))) ++ (wbytes [(UInt64.ofNat s.length).toUInt32, (UInt64.ofNat ((UInt64.ofNat s.length).toNat / 2 ^ 32)).toUInt32]))) (hT 29 rfl rfl) eR
 intro a4 wd4 N4 D4 hO hR hA hU
 obtain ⟨_, _, _, _, _, _, _, _, _, _, _, _, _, t5, _⟩ := hA
 have E4 := E3.trans hR
 have s2_4 := oT hO s2_3 rfl
 have B2_4 := B2_3.ext' hR
 have s5_4 : get a4 5 = str (((s ++ (([128] : List UInt8))) ++ (List.replicate ((24 - ((s.length + 1) % 16)) % 16) (0 : UInt8))) ++ (wbytes [(UInt64.ofNat s.length).toUInt32, (UInt64.ofNat ((UInt64.ofNat s.length).toNat / 2 ^ 32)).toUInt32])) := t5
 clear E3 N3 D3 s0_3 s2_3 s3_3 s4_3 B2_3
 refine tail_nil ?_
 refine wp_seq ?_
 refine Rl [] [(31, Pr.ex (str (((s ++ (([128] : List UInt8))) ++ (List.replicate ((24 - ((s.length + 1) % 16)) % 16) (0 : UInt8))) ++ (wbytes [(UInt64.ofNat s.length).toUInt32, (UInt64.ofNat ((UInt64.ofNat s.length).toNat / 2 ^ 32)).toUInt32])))), (32, Pr.t2 (Pr.own' W32 wd4.heap.size 22 (words (((s ++ (([128] : List UInt8))) ++ (List.replicate ((24 - ((s.length + 1) % 16)) % 16) (0 : UInt8))) ++ (wbytes [(UInt64.ofNat s.length).toUInt32, (UInt64.ofNat ((UInt64.ofNat s.length).toNat / 2 ^ 32)).toUInt32])))) (Pr.ex (i64 ((0 : Nat) : Int)))), (30, Pr.t2 (Pr.own' W32 wd4.heap.size 22 (words (((s ++ (([128] : List UInt8))) ++ (List.replicate ((24 - ((s.length + 1) % 16)) % 16) (0 : UInt8))) ++ (wbytes [(UInt64.ofNat s.length).toUInt32, (UInt64.ofNat ((UInt64.ofNat s.length).toNat / 2 ^ 32)).toUInt32])))) (Pr.ex (i64 ((0 : Nat) : Int)))), (33, Pr.own' W32 wd4.heap.size 22 (words (((s ++ (([128] : List UInt8))) ++ (List.replicate ((24 - ((s.length + 1) % 16)) % 16) (0 : UInt8))) ++ (wbytes [(UInt64.ofNat s.length).toUInt32, (UInt64.ofNat ((UInt64.ofNat s.length).toNat / 2 ^ 32)).toUInt32])))), (34, Pr.ex (i64 ((0 : Nat) : Int))), (6, Pr.own' W32 wd4.heap.size 22 (words (((s ++ (([128] : List UInt8))) ++ (List.replicate ((24 - ((s.length + 1) % 16)) % 16) (0 : UInt8))) ++ (wbytes [(UInt64.ofNat s.length).toUInt32, (UInt64.ofNat ((UInt64.ofNat s.length).toNat / 2 ^ 32)).toUInt32])))), (7, Pr.ex (i64 ((0 : Nat) : Int)))] 7 N4 D4 ?_ ?_
 refine Ac ?_ (Ac ?_ (Ac ?_ (Ac ?_ (Ac ?_ (Ac ?_ (Ac ?_ (Az _)))))))
 exact Am s5_4 rfl fun _ => rfl
 exact Ap fun aq wq _ hO hR hT => does_ret (vs := #[str (((s ++ (([128] : List UInt8))) ++ (List.replicate ((24 - ((s.length + 1) % 16)) % 16) (0 : UInt8))) ++ (wbytes [(UInt64.ofNat s.length).toUInt32, (UInt64.ofNat ((UInt64.ofNat s.length).toNat / 2 ^ 32)).toUInt32]))]) call_36 (args1 (hT 31 rfl rfl)) rfl ((words_ (((s ++ (([128] : List UInt8))) ++ (List.replicate ((24 - ((s.length + 1) % 16)) % 16) (0 : UInt8))) ++ (wbytes [(UInt64.ofNat s.length).toUInt32, (UInt64.ofNat ((UInt64.ofNat s.length).toNat / 2 ^ 32)).toUInt32])) wq (full4 s _ _) (fullN s _ _ hn)).mono fun v w2 h => ⟨h.2, by obtain ⟨x0, x1, hv, k0, k1⟩ := h.1; exact ⟨x0, x1, hv, OwnT.base k0 hR.size', k1⟩⟩)
 exact Ap fun aq wq _ hO hR hT => does_move rfl ⟨Ext.refl _, (hT 32 rfl rfl)⟩
 exact Ap fun aq wq _ hO hR hT => by
  obtain ⟨x0, x1, hv, k0, k1⟩ := (hT 30 rfl rfl)
  exact does_extract hv rfl ⟨Ext.refl _, k0⟩
 exact Ap fun aq wq _ hO hR hT => by
  obtain ⟨x0, x1, hv, k0, k1⟩ := (hT 30 rfl rfl)
  exact does_extract (V := i64 ((0 : Nat) : Int)) hv (by rw [show x1 = i64 ((0 : Nat) : Int) from k1]; rfl) ⟨Ext.refl _, rfl⟩
 exact Ap fun aq wq _ hO hR hT => does_assign rfl ⟨Ext.refl _, (hT 33 rfl rfl)⟩
 exact Ap fun aq wq _ hO hR hT => does_assign (V := i64 ((0 : Nat) : Int)) (hT 34 rfl rfl) eR
 intro a5 wd5 N5 D5 hO hR hA hU
 obtain ⟨_, _, _, _, _, t6, _, _⟩ := hA
 have E5 := E4.trans hR
 have s2_5 := oT hO s2_4 rfl
 have B2_5 := B2_4.ext' hR
 obtain ⟨x6, s6_5⟩ : ∃ x, get a5 6 = x := ⟨_, rfl⟩
 replace t6 : OwnT W32 wd4.heap.size 22 (words (((s ++ (([128] : List UInt8))) ++ (List.replicate ((24 - ((s.length + 1) % 16)) % 16) (0 : UInt8))) ++ (wbytes [(UInt64.ofNat s.length).toUInt32, (UInt64.ofNat ((UInt64.ofNat s.length).toNat / 2 ^ 32)).toUInt32]))) x6 wd5 := by rw [← s6_5]; exact t6
 have nbo_x6_b2 := Ob1 t6 B2_4
 have X6_5 := t6.sl.wide (Nat.zero_le _) (.inl rfl)
 have O6_5 := OwnT.base t6 E4.size'
 clear E4 N4 D4 s2_4 s5_4 B2_4
 refine tail_nil ?_
 refine wp_seq ?_
 refine Rl [] [(35, Pr.ex (x6)), (36, Pr.ex (Dg.val (((St.first 1).takes (words (((s ++ (([128] : List UInt8))) ++ (List.replicate ((24 - ((s.length + 1) % 16)) % 16) (0 : UInt8))) ++ (wbytes [(UInt64.ofNat s.length).toUInt32, (UInt64.ofNat ((UInt64.ofNat s.length).toNat / 2 ^ 32)).toUInt32])))).out)))] 2 N5 D5 ?_ ?_
 refine Ac ?_ (Ac ?_ (Az _))
 exact Am s6_5 rfl fun _ => rfl
 exact Ap fun aq wq _ hO hR hT => does_ret (vs := #[w32 (1), x6]) call_34 (args2 rfl (hT 35 rfl rfl)) rfl ((take (1) (words (((s ++ (([128] : List UInt8))) ++ (List.replicate ((24 - ((s.length + 1) % 16)) % 16) (0 : UInt8))) ++ (wbytes [(UInt64.ofNat s.length).toUInt32, (UInt64.ofNat ((UInt64.ofNat s.length).toNat / 2 ^ 32)).toUInt32]))) (x6) wq (hL.ext (E5.trans hR)) ((X6_5.ext' hR).wide (Nat.zero_le _) (.inl rfl))).mono fun v w2 h => ⟨h.2, h.1⟩)
 intro a6 wd6 N6 D6 hO hR hA hU
 obtain ⟨_, t36, _⟩ := hA
 have E6 := E5.trans hR
 have s2_6 := oT hO s2_5 rfl
 have B2_6 := B2_5.ext' hR
 have X6_6 := X6_5.ext' hR
 have O6_6 := O6_5.ext' hR
 have s36_6 : get a6 36 = Dg.val (((St.first 1).takes (words (((s ++ (([128] : List UInt8))) ++ (List.replicate ((24 - ((s.length + 1) % 16)) % 16) (0 : UInt8))) ++ (wbytes [(UInt64.ofNat s.length).toUInt32, (UInt64.ofNat ((UInt64.ofNat s.length).toNat / 2 ^ 32)).toUInt32])))).out) := t36
 clear E5 N5 D5 s2_5 s6_5 B2_5 X6_5 O6_5
 refine tail_none rfl rfl (does_storeD (o := 0) (n := 4) (cs' := [w32 (((St.first 1).takes (words (((s ++ (([128] : List UInt8))) ++ (List.replicate ((24 - ((s.length + 1) % 16)) % 16) (0 : UInt8))) ++ (wbytes [(UInt64.ofNat s.length).toUInt32, (UInt64.ofNat ((UInt64.ofNat s.length).toNat / 2 ^ 32)).toUInt32])))).out).a, w32 (((St.first 1).takes (words (((s ++ (([128] : List UInt8))) ++ (List.replicate ((24 - ((s.length + 1) % 16)) % 16) (0 : UInt8))) ++ (wbytes [(UInt64.ofNat s.length).toUInt32, (UInt64.ofNat ((UInt64.ofNat s.length).toNat / 2 ^ 32)).toUInt32])))).out).b, w32 (((St.first 1).takes (words (((s ++ (([128] : List UInt8))) ++ (List.replicate ((24 - ((s.length + 1) % 16)) % 16) (0 : UInt8))) ++ (wbytes [(UInt64.ofNat s.length).toUInt32, (UInt64.ofNat ((UInt64.ofNat s.length).toNat / 2 ^ 32)).toUInt32])))).out).c, w32 (((St.first 1).takes (words (((s ++ (([128] : List UInt8))) ++ (List.replicate ((24 - ((s.length + 1) % 16)) % 16) (0 : UInt8))) ++ (wbytes [(UInt64.ofNat s.length).toUInt32, (UInt64.ofNat ((UInt64.ofNat s.length).toNat / 2 ^ 32)).toUInt32])))).out).d]) (V := Dg.val (((St.first 1).takes (words (((s ++ (([128] : List UInt8))) ++ (List.replicate ((24 - ((s.length + 1) % 16)) % 16) (0 : UInt8))) ++ (wbytes [(UInt64.ofNat s.length).toUInt32, (UInt64.ofNat ((UInt64.ofNat s.length).toNat / 2 ^ 32)).toUInt32])))).out)) s2_6 s36_6 B2_6 (nB rfl) rfl siz_24 rfl rfl (fun wd7 hX hz B2_7 => ?_))
 have E7 := E6.since hX (fun k e => e ▸ fr_b2)
 have X6_7 := SlT.over X6_6 hX (fun _ => nbo_x6_b2)
 have O6_7 := OwnT.ext O6_6 hX (fun k hk e => nbo_x6_b2 (e ▸ hk))
 clear hX hz E6 B2_6 X6_6 O6_6
 refine tail_nil ?_
 refine wp_ret ?_
 refine res_one (V := Dg.val (((St.first 1).takes (words (((s ++ (([128] : List UInt8))) ++ (List.replicate ((24 - ((s.length + 1) % 16)) % 16) (0 : UInt8))) ++ (wbytes [(UInt64.ofNat s.length).toUInt32, (UInt64.ofNat ((UInt64.ofNat s.length).toNat / 2 ^ 32)).toUInt32])))).out)) rfl D6 (ResIs.cell s2_6 B2_7 row_24 rfl rfl) ?_
 exact ⟨by show Dg.val _ = Dg.val _; rw [of_eq s hn], E7⟩

theorem ofR (s : List UInt8) (w0 : World) (hn : s.length ≤ 65536) :
    Gives Tryd.prog 24 #[str (s)] w0 (Pr.ex (Dg.val (of s))) := by
 refine enter (N := 70) Tryd.func24 rfl rfl ?_
 intro a0 N0 D0 hA
 have s0_0 : get a0 0 = str (s) := hA 0 _ rfl
 clear hA
 have E0 : Ext w0 w0 := Ext.refl w0
 refine wp_seq ?_
 refine Rl [2] [(2, Pr.box' w0.heap.size 24 [w32 (Dg.zero).a, w32 (Dg.zero).b, w32 (Dg.zero).c, w32 (Dg.zero).d])] 1 N0 D0 ?_ ?_
 refine Ac ?_ (Az _)
 refine Ask.fresh rfl rfl ?_
 intro aq wq hNq hO hR hT
 exact does_alloc zero_24 (fun b w2 he hlo hb => ⟨he, ⟨b, rfl, Nat.le_trans hR.size' hlo, hb⟩, ⟨b, rfl, hlo, hb.lt⟩⟩)
 intro a1 wd1 N1 D1 hO hR hA hU
 obtain ⟨t2, _⟩ := hA
 have E1 := E0.trans hR
 have s0_1 := oT hO s0_0 rfl
 obtain ⟨b2, s2_1, lo_b2, B2_1⟩ := t2
 have fr_b2 : w0.heap.size ≤ b2 := Nat.le_trans E0.size' lo_b2
 clear E0 N0 D0 s0_0
 refine tail_nil ?_
 refine wp_seq ?_
 refine Rl [] [(8, Pr.ex (str (s))), (9, Pr.ex (i64 (s.length : Int))), (10, Pr.ex (w64 (UInt64.ofNat s.length))), (3, Pr.ex (w64 (UInt64.ofNat s.length)))] 4 N1 D1 ?_ ?_
 refine Ac ?_ (Ac ?_ (Ac ?_ (Ac ?_ (Az _))))
 exact Am s0_1 rfl fun _ => rfl
 exact Ap fun aq wq _ hO hR hT => does_lenStr (l := s) Tryd.underlying9 (hT 8 rfl rfl) eR
 exact Ap fun aq wq _ hO hR hT => does_conv ⟨_, Tryd.underlying3⟩ Tryd.underlying71 (hT 9 rfl rfl) (wrap_u64 _) eR
 exact Ap fun aq wq _ hO hR hT => does_assign (V := w64 (UInt64.ofNat s.length)) (hT 10 rfl rfl) eR
 intro a2 wd2 N2 D2 hO hR hA hU
 obtain ⟨_, _, _, t3, _⟩ := hA
 have E2 := E1.trans hR
 have s0_2 := oT hO s0_1 rfl
 have s2_2 := oT hO s2_1 rfl
 have B2_2 := B2_1.ext' hR
 have s3_2 : get a2 3 = w64 (UInt64.ofNat s.length) := t3
 clear E1 N1 D1 s0_1 s2_1 B2_1
 refine tail_nil ?_
 refine wp_seq ?_
 refine Rl [] [(11, Pr.ex (str (s))), (12, Pr.ex (str (s ++ (([128] : List UInt8)))))] 2 N2 D2 ?_ ?_
 refine Ac ?_ (Ac ?_ (Az _))
 exact Am s0_2 rfl fun _ => rfl
 exact Ap fun aq wq _ hO hR hT => does_cat (a := s) (b := ([128] : List UInt8)) (hT 11 rfl rfl) rfl (by simp only [List.length_append, List.length_cons, List.length_nil, List.length_replicate, bytes_length]; omega) eR
 intro a3 wd3 N3 D3 hO hR hA hU
 obtain ⟨_, t12, _⟩ := hA
 have E3 := E2.trans hR
 have s0_3 := oT hO s0_2 rfl
 have s2_3 := oT hO s2_2 rfl
 have s3_3 := oT hO s3_2 rfl
 have B2_3 := B2_2.ext' hR
 have s12_3 : get a3 12 = str (s ++ (([128] : List UInt8))) := t12
 clear E2 N2 D2 s0_2 s2_2 s3_2 B2_2
 refine tail_put rfl rfl N3 D3 (by decide) (does_assign (V := str (s ++ (([128] : List UInt8)))) s12_3 (fun a4 N4 D4 hv hO => ?_))
 have s0_4 := hv
 have s2_4 := oT hO s2_3 rfl
 have s3_4 := oT hO s3_3 rfl
 clear hO hv N3 D3 s2_3 s3_3 s12_3 s0_3
 refine tail_nil ?_
 refine wp_seq ?_
 refine wp_block ?_
 refine loop_g (fun mz az wz => ∃ j : Nat, mz = zeros s.length - j ∧ (az.tmps.size = 70) ∧ (az.defers = []) ∧ (get az 0 = str ((s ++ ([128] : List UInt8)) ++ List.replicate j (0 : UInt8))) ∧ (get az 2 = Value.pointer (some ⟨b2, 0, none⟩)) ∧ (get az 3 = w64 (UInt64.ofNat s.length)) ∧ (Ext w0 wz) ∧ (Has wz b2 24 [w32 (Dg.zero).a, w32 (Dg.zero).b, w32 (Dg.zero).c, w32 (Dg.zero).d]) ∧ (j ≤ zeros s.length)) ?_ ?_
 exact ⟨_, 0, rfl, N4, D4, (by rw [show (s ++ [128]) ++ List.replicate 0 0 = s ++ [128] from List.append_nil _]; exact s0_4), s2_4, s3_4, E3, B2_3, Nat.zero_le _⟩
 rintro mz a5 wd5 ⟨j, rfl, N5, D5, s0_5, s2_5, s3_5, E5, B2_5, hj⟩
 have hlen : ((s ++ ([128] : List UInt8)) ++ List.replicate j (0 : UInt8)).length = s.length + 1 + j := by simp only [List.length_append, List.length_cons, List.length_nil, List.length_replicate]
 refine wp_seq ?_
 refine wp_seq ?_
 refine Rl [] [(13, Pr.ex (str ((s ++ ([128] : List UInt8)) ++ List.replicate j (0 : UInt8)))), (14, Pr.ex (i64 ((((s ++ ([128] : List UInt8)) ++ List.replicate j (0 : UInt8)).length : Nat) : Int))), (15, Pr.ex (i64 (((((s ++ ([128] : List UInt8)) ++ List.replicate j (0 : UInt8)).length) % 16 : Nat) : Int))), (16, Pr.ex (Value.bool (!decide ((((((s ++ ([128] : List UInt8)) ++ List.replicate j (0 : UInt8)).length) % 16 : Nat) : Int) = ((8 : Nat) : Int)))))] 4 N5 D5 ?_ ?_
 refine Ac ?_ (Ac ?_ (Ac ?_ (Ac ?_ (Az _))))
 exact Am s0_5 rfl fun _ => rfl
 exact Ap fun aq wq _ hO hR hT => does_lenStr (l := (s ++ ([128] : List UInt8)) ++ List.replicate j (0 : UInt8)) Tryd.underlying9 (hT 13 rfl rfl) eR
 exact Ap fun aq wq _ hO hR hT => does_rem (k := .i64) (a := ((((s ++ ([128] : List UInt8)) ++ List.replicate j (0 : UInt8)).length : Nat) : Int)) (b := ((16 : Nat) : Int)) (r := (((((s ++ ([128] : List UInt8)) ++ List.replicate j (0 : UInt8)).length) % 16 : Nat) : Int)) (hT 14 rfl rfl) rfl (by omega) (by omega) (by omega) eR
 exact Ap fun aq wq _ hO hR hT => does_neq (a := (((((s ++ ([128] : List UInt8)) ++ List.replicate j (0 : UInt8)).length) % 16 : Nat) : Int)) (b := ((8 : Nat) : Int)) (hT 15 rfl rfl) rfl eR
 intro a6 wd6 N6 D6 hO hR hA hU
 obtain ⟨_, _, _, t16, _⟩ := hA
 have E6 := E5.trans hR
 have s0_6 := oT hO s0_5 rfl
 have s2_6 := oT hO s2_5 rfl
 have s3_6 := oT hO s3_5 rfl
 have B2_6 := B2_5.ext' hR
 have s16_6 : get a6 16 = Value.bool (!decide ((((((s ++ ([128] : List UInt8)) ++ List.replicate j (0 : UInt8)).length) % 16 : Nat) : Int) = ((8 : Nat) : Int))) := t16
 clear E5 N5 D5 s0_5 s2_5 s3_5 B2_5
 refine tail_nil ?_
 refine wp_if (B := !decide ((((((s ++ ([128] : List UInt8)) ++ List.replicate j (0 : UInt8)).length) % 16 : Nat) : Int) = ((8 : Nat) : Int))) s16_6 (fun hc0 => ?_) (fun hc0 => ?_)
 have hc0 := of_decide_eq_false (bn hc0)
 have hj2 : j < zeros s.length := by unfold zeros at hj ⊢; omega
 refine wp_skip ?_
 refine wp_block ?_
 refine Rl [] [(17, Pr.ex (str ((s ++ ([128] : List UInt8)) ++ List.replicate j (0 : UInt8)))), (18, Pr.ex (str (((s ++ ([128] : List UInt8)) ++ List.replicate j (0 : UInt8)) ++ (([0] : List UInt8)))))] 2 N6 D6 ?_ ?_
 refine Ac ?_ (Ac ?_ (Az _))
 exact Am s0_6 rfl fun _ => rfl
 exact Ap fun aq wq _ hO hR hT => does_cat (a := (s ++ ([128] : List UInt8)) ++ List.replicate j (0 : UInt8)) (b := ([0] : List UInt8)) (hT 17 rfl rfl) rfl (by rw [hlen]; unfold zeros at hj; simp only [List.length_cons, List.length_nil]; omega) eR
 intro a7 wd7 N7 D7 hO hR hA hU
 obtain ⟨_, t18, _⟩ := hA
 have E7 := E6.trans hR
 have s0_7 := oT hO s0_6 rfl
 have s2_7 := oT hO s2_6 rfl
 have s3_7 := oT hO s3_6 rfl
 have B2_7 := B2_6.ext' hR
 have s18_7 : get a7 18 = str (((s ++ ([128] : List UInt8)) ++ List.replicate j (0 : UInt8)) ++ (([0] : List UInt8))) := t18
 clear E6 N6 D6 s0_6 s2_6 s3_6 s16_6 B2_6
 refine tail_put rfl rfl N7 D7 (by decide) (does_assign (V := str (((s ++ ([128] : List UInt8)) ++ List.replicate j (0 : UInt8)) ++ (([0] : List UInt8)))) s18_7 (fun a8 N8 D8 hv hO => ?_))
 have s0_8 := hv
 have s2_8 := oT hO s2_7 rfl
 have s3_8 := oT hO s3_7 rfl
 clear hO hv N7 D7 s2_7 s3_7 s18_7 s0_7
 refine tail_nil ?_
 exact ⟨_, by omega, j + 1, rfl, N8, D8, (by rw [s0_8, rep_succ]), s2_8, s3_8, E7, B2_7, by omega⟩
 have hc0 := of_decide_eq_true (bn' hc0)
 have h8 : (s.length + 1 + j) % 16 = 8 := by omega
 have h15 : j ≤ 15 := by unfold zeros at hj; omega
 have hj2 : j = zeros s.length := by unfold zeros at hj ⊢; omega
 have hw4 : ((s ++ ([128] : List UInt8)) ++ List.replicate j (0 : UInt8)).length % 4 = 0 := by omega
 have hwn : ((s ++ ([128] : List UInt8)) ++ List.replicate j (0 : UInt8)).length ≤ 4194304 := by unfold zeros at hj2; omega
 refine wp_exit ?_
 refine wp_seq ?_
 refine Rl [] [(20, Pr.ex (str ((s ++ ([128] : List UInt8)) ++ List.replicate j (0 : UInt8)))), (21, Pr.t2 (Pr.own' W32 wd6.heap.size 22 (words ((s ++ ([128] : List UInt8)) ++ List.replicate j (0 : UInt8)))) (Pr.ex (i64 ((0 : Nat) : Int)))), (19, Pr.t2 (Pr.own' W32 wd6.heap.size 22 (words ((s ++ ([128] : List UInt8)) ++ List.replicate j (0 : UInt8)))) (Pr.ex (i64 ((0 : Nat) : Int)))), (22, Pr.own' W32 wd6.heap.size 22 (words ((s ++ ([128] : List UInt8)) ++ List.replicate j (0 : UInt8)))), (23, Pr.ex (i64 ((0 : Nat) : Int))), (4, Pr.own' W32 wd6.heap.size 22 (words ((s ++ ([128] : List UInt8)) ++ List.replicate j (0 : UInt8)))), (5, Pr.ex (i64 ((0 : Nat) : Int)))] 7 N6 D6 ?_ ?_
 refine Ac ?_ (Ac ?_ (Ac ?_ (Ac ?_ (Ac ?_ (Ac ?_ (Ac ?_ (Az _)))))))
 exact Am s0_6 rfl fun _ => rfl
 exact Ap fun aq wq _ hO hR hT => does_ret (vs := #[str ((s ++ ([128] : List UInt8)) ++ List.replicate j (0 : UInt8))]) call_38 (args1 (hT 20 rfl rfl)) rfl ((wordsR ((s ++ ([128] : List UInt8)) ++ List.replicate j (0 : UInt8)) wq hw4 hwn).mono fun v w2 h => ⟨h.2, by obtain ⟨x0, x1, hv, k0, k1⟩ := h.1; exact ⟨x0, x1, hv, OwnT.base k0 hR.size', k1⟩⟩)
 exact Ap fun aq wq _ hO hR hT => does_move rfl ⟨Ext.refl _, (hT 21 rfl rfl)⟩
 exact Ap fun aq wq _ hO hR hT => by
  obtain ⟨x0, x1, hv, k0, k1⟩ := (hT 19 rfl rfl)
  exact does_extract hv rfl ⟨Ext.refl _, k0⟩
 exact Ap fun aq wq _ hO hR hT => by
  obtain ⟨x0, x1, hv, k0, k1⟩ := (hT 19 rfl rfl)
  exact does_extract (V := i64 ((0 : Nat) : Int)) hv (by rw [show x1 = i64 ((0 : Nat) : Int) from k1]; rfl) ⟨Ext.refl _, rfl⟩
 exact Ap fun aq wq _ hO hR hT => does_assign rfl ⟨Ext.refl _, (hT 22 rfl rfl)⟩
 exact Ap fun aq wq _ hO hR hT => does_assign (V := i64 ((0 : Nat) : Int)) (hT 23 rfl rfl) eR
 intro a9 wd9 N9 D9 hO hR hA hU
 obtain ⟨_, _, _, _, _, t4, _, _⟩ := hA
 have E9 := E6.trans hR
 have s2_9 := oT hO s2_6 rfl
 have s3_9 := oT hO s3_6 rfl
 have B2_9 := B2_6.ext' hR
 obtain ⟨x4, s4_9⟩ : ∃ x, get a9 4 = x := ⟨_, rfl⟩
 replace t4 : OwnT W32 wd6.heap.size 22 (words ((s ++ ([128] : List UInt8)) ++ List.replicate j (0 : UInt8))) x4 wd9 := by rw [← s4_9]; exact t4
 have nbo_x4_b2 := Ob1 t4 B2_6
 have X4_9 := t4.sl.wide (Nat.zero_le _) (.inl rfl)
 have O4_9 := OwnT.base t4 E6.size'
 clear E6 N6 D6 s0_6 s2_6 s3_6 s16_6 B2_6
 refine tail_nil ?_
 refine wp_seq ?_
 refine Rl [] [(24, Pr.ex (x4)), (25, Pr.ex (w64 (UInt64.ofNat s.length))), (26, Pr.ex (w32 ((UInt64.ofNat s.length).toUInt32))), (27, Pr.ex (w64 (UInt64.ofNat s.length))), (28, Pr.ex (w64 (UInt64.ofNat ((UInt64.ofNat s.length).toNat / 2 ^ 32)))), (29, Pr.ex (w32 ((UInt64.ofNat ((UInt64.ofNat s.length).toNat / 2 ^ 32)).toUInt32))), (30, Pr.own' W32 wd9.heap.size 22 ([(UInt64.ofNat s.length).toUInt32, (UInt64.ofNat ((UInt64.ofNat s.length).toNat / 2 ^ 32)).toUInt32]))] 7 N9 D9 ?_ ?_
 refine Ac ?_ (Ac ?_ (Ac ?_ (Ac ?_ (Ac ?_ (Ac ?_ (Ac ?_ (Az _)))))))
 exact Am s4_9 rfl fun _ => rfl
 exact Am s3_9 rfl fun _ => rfl
 exact Ap fun aq wq _ hO hR hT => does_conv ⟨_, Tryd.underlying71⟩ Tryd.underlying22 (hT 25 rfl rfl) (conv_64_32 _) eR
 exact Am s3_9 rfl fun _ => rfl
 exact Ap fun aq wq _ hO hR hT => does_shr64 (a := UInt64.ofNat s.length) (b := 32) (hT 27 rfl rfl) rfl (by decide) eR
 exact Ap fun aq wq _ hO hR hT => does_conv ⟨_, Tryd.underlying71⟩ Tryd.underlying22 (hT 28 rfl rfl) (conv_64_32 _) eR
 exact Ap fun aq wq _ hO hR hT => does_sliceN (T := W32) (xs := [(UInt64.ofNat s.length).toUInt32, (UInt64.ofNat ((UInt64.ofNat s.length).toNat / 2 ^ 32)).toUInt32]) (vs := [w32 ((UInt64.ofNat s.length).toUInt32), w32 ((UInt64.ofNat ((UInt64.ofNat s.length).toNat / 2 ^ 32)).toUInt32)]) app_58 rfl (parts2 (hT 26 rfl rfl) (hT 29 rfl rfl)) rfl (by decide) (by decide) rfl (fun v w2 he _ ho => ⟨he, OwnT.base ho hR.size'⟩)
 intro a10 wd10 N10 D10 hO hR hA hU
 obtain ⟨t24, _, _, _, _, _, t30, _⟩ := hA
 have E10 := E9.trans hR
 have s2_10 := oT hO s2_9 rfl
 have s4_10 := oT hO s4_9 rfl
 have B2_10 := B2_9.ext' hR
 have X4_10 := X4_9.ext' hR
 have O4_10 := O4_9.ext' hR
 have s24_10 : get a10 24 = x4 := t24
 obtain ⟨x30, s30_10⟩ : ∃ x, get a10 30 = x := ⟨_, rfl⟩
 replace t30 : OwnT W32 wd9.heap.size 22 ([(UInt64.ofNat s.length).toUInt32, (UInt64.ofNat ((UInt64.ofNat s.length).toNat / 2 ^ 32)).toUInt32]) x30 wd10 := by rw [← s30_10]; exact t30
 have nbo_x30_b2 := Ob1 t30 B2_9
 have no_x30_x4 := Oo t30 O4_9
 have X30_10 := t30.sl.wide (Nat.zero_le _) (.inl rfl)
 have O30_10 := OwnT.base t30 E9.size'
 clear E9 N9 D9 s2_9 s3_9 s4_9 B2_9 X4_9 O4_9
 have hwl := words_le ((s ++ ([128] : List UInt8)) ++ List.replicate j (0 : UInt8))
 have hwl4 := words_len4 _ hw4
 obtain ⟨LL, hLL⟩ : ∃ LL : List UInt32, (words ((s ++ ([128] : List UInt8)) ++ List.replicate j (0 : UInt8))) ++ [(UInt64.ofNat s.length).toUInt32, (UInt64.ofNat ((UInt64.ofNat s.length).toNat / 2 ^ 32)).toUInt32] = LL := ⟨_, rfl⟩
 have hL4 : LL.length % 4 = 0 := by rw [← hLL]; rw [hlen] at hwl4; simp only [List.length_append, List.length_cons, List.length_nil]; omega
 have hLN : LL.length ≤ 1048576 := by rw [← hLL]; rw [hlen] at hwl4; simp only [List.length_append, List.length_cons, List.length_nil]; omega
 refine tail_put rfl rfl N10 D10 (by decide) (does_append (T := W32) (base := w0.heap.size) (xs := words ((s ++ ([128] : List UInt8)) ++ List.replicate j (0 : UInt8))) (ys := [(UInt64.ofNat s.length).toUInt32, (UInt64.ofNat ((UInt64.ofNat s.length).toNat / 2 ^ 32)).toUInt32]) (v := x4) app_58 s24_10 O4_10 (SlT.at s30_10 X30_10) (by simp) (by simp only [List.length_cons, List.length_nil]; omega) (by simp only [List.length_cons, List.length_nil]; omega) E10.size' (fun x31 wd11 hX O31_11 hk a11 N11 D11 hv hO => ?_))
 have E11 := E10.since hX (fun b hb => Nat.le_trans (Nat.le_refl _) (OwnT.block_lt O4_10 hb).1)
 have B2_11 := B2_10.ext hX nbo_x4_b2
 have nbo_x31_b2 : x31.ownBlock ≠ some b2 := fun e => (hk _ e).elim nbo_x4_b2 (fun h => Nat.lt_irrefl _ (Nat.lt_of_lt_of_le B2_10.lt h))
 have O30_11 := OwnT.ext O30_10 hX (fun k hk e => no_x30_x4 k hk e)
 have no_x31_x30 : ∀ k, x31.ownBlock = some k → x30.ownBlock ≠ some k := fun k e e' => (hk k e).elim (fun h => no_x30_x4 k e' h) (fun h => Nat.lt_irrefl _ (Nat.lt_of_lt_of_le (OwnT.block_lt O30_10 e').2 h))
 have X30_11 := O30_11.sl.wide (Nat.zero_le _) (.inl rfl)
 have X31_11 := O31_11.sl.wide (Nat.zero_le _) (.inl rfl)
 rw [hLL] at O31_11 X31_11
 have s31_11 := hv
 have s2_11 := oT hO s2_10 rfl
 have s4_11 := oT hO s4_10 rfl
 clear hO hv hX hk N10 D10 E10 B2_10 O30_10 s2_10 s4_10 s24_10 s30_10
 refine tail_put rfl rfl N11 D11 (by decide) (does_assign (V := x31) s31_11 (fun a12 N12 D12 hv hO => ?_))
 have s4_12 := hv
 have s2_12 := oT hO s2_11 rfl
 clear hO hv N11 D11 s2_11 s31_11 s4_11
 refine tail_nil ?_
 refine wp_seq ?_
 refine Rl [6] [(32, Pr.ex (Value.agg #[w32 (1), w32 (0), w32 (0), w32 (0), w32 (0), w32 (0), w32 (0), w32 (0)])), (6, Pr.box' wd11.heap.size 75 [w32 (0), w32 (0), w32 (0), w32 (0), w32 (0), w32 (0), w32 (0), w32 (0)])] 2 N12 D12 ?_ ?_
 refine Ac ?_ (Ac ?_ (Az _))
 exact Ap fun aq wq _ hO hR hT => does_build (vs := #[(0, w32 (1))]) (V := Value.agg #[w32 (1), w32 (0), w32 (0), w32 (0), w32 (0), w32 (0), w32 (0), w32 (0)]) (parts1 rfl) (by kernel_rfl) eR
 refine Ask.fresh rfl rfl ?_
 intro aq wq hNq hO hR hT
 exact does_alloc zero_75 (fun b w2 he hlo hb => ⟨he, ⟨b, rfl, Nat.le_trans hR.size' hlo, hb⟩, ⟨b, rfl, hlo, hb.lt⟩⟩)
 intro a13 wd13 N13 D13 hO hR hA hU
 obtain ⟨t32, t6, _⟩ := hA
 have E13 := E11.trans hR
 have s2_13 := oT hO s2_12 rfl
 have s4_13 := oT hO s4_12 rfl
 have B2_13 := B2_11.ext' hR
 have X30_13 := X30_11.ext' hR
 have X31_13 := X31_11.ext' hR
 have O30_13 := O30_11.ext' hR
 have O31_13 := O31_11.ext' hR
 have s32_13 : get a13 32 = Value.agg #[w32 (1), w32 (0), w32 (0), w32 (0), w32 (0), w32 (0), w32 (0), w32 (0)] := t32
 obtain ⟨b6, s6_13, lo_b6, B6_13⟩ := t6
 have ne_b2_b6 := Hl B2_11 lo_b6
 have nb_x30_b6 := SlT.old X30_11 lo_b6
 have nb_x31_b6 := SlT.old X31_11 lo_b6
 have nbo_x30_b6 := Ol O30_11 lo_b6
 have nbo_x31_b6 := Ol O31_11 lo_b6
 have fr_b6 : w0.heap.size ≤ b6 := Nat.le_trans E11.size' lo_b6
 clear E11 N12 D12 s2_12 s4_12 B2_11 X30_11 X31_11 O30_11 O31_11
 refine tail_none rfl rfl (does_storeD (o := 0) (n := 8) (cs' := [w32 (1), w32 (0), w32 (0), w32 (0), w32 (0), w32 (0), w32 (0), w32 (0)]) (V := Value.agg #[w32 (1), w32 (0), w32 (0), w32 (0), w32 (0), w32 (0), w32 (0), w32 (0)]) s6_13 s32_13 B6_13 (nB rfl) rfl siz_75 rfl rfl (fun wd14 hX hz B6_14 => ?_))
 have E14 := E13.since hX (fun k e => e ▸ fr_b6)
 have B2_14 := B2_13.ext hX ne_b2_b6
 have X30_14 := SlT.over X30_13 hX nb_x30_b6
 have X31_14 := SlT.over X31_13 hX nb_x31_b6
 have O30_14 := OwnT.ext O30_13 hX (fun k hk e => nbo_x30_b6 (e ▸ hk))
 have O31_14 := OwnT.ext O31_13 hX (fun k hk e => nbo_x31_b6 (e ▸ hk))
 clear hX hz E13 B2_13 B6_13 X30_13 X31_13 O30_13 O31_13
 refine tail_nil ?_
 refine wp_seq ?_
 refine wp_seq ?_
 refine Rl [] [(7, Pr.ex (i64 ((0 : Nat) : Int)))] 1 N13 D13 ?_ ?_
 refine Ac ?_ (Az _)
 exact Ap fun aq wq _ hO hR hT => does_assign (V := i64 ((0 : Nat) : Int)) rfl eR
 intro a15 wd15 N15 D15 hO hR hA hU
 obtain ⟨t7, _⟩ := hA
 have E15 := E14.trans hR
 have s2_15 := oT hO s2_13 rfl
 have s4_15 := oT hO s4_13 rfl
 have s6_15 := oT hO s6_13 rfl
 have B2_15 := B2_14.ext' hR
 have B6_15 := B6_14.ext' hR
 have X30_15 := X30_14.ext' hR
 have X31_15 := X31_14.ext' hR
 have O30_15 := O30_14.ext' hR
 have O31_15 := O31_14.ext' hR
 have s7_15 : get a15 7 = i64 ((0 : Nat) : Int) := t7
 clear E14 N13 D13 s2_13 s4_13 s6_13 s32_13 B2_14 B6_14 X30_14 X31_14 O30_14 O31_14
 refine tail_nil ?_
 refine wp_block ?_
 refine loop_g (fun mz az wz => ∃ i : Nat, ∃ st : St, mz = LL.length - i ∧ (az.tmps.size = 70) ∧ (az.defers = []) ∧ (get az 2 = Value.pointer (some ⟨b2, 0, none⟩)) ∧ (get az 4 = x31) ∧ (get az 6 = Value.pointer (some ⟨b6, 0, none⟩)) ∧ (get az 7 = i64 (i : Int)) ∧ (Ext w0 wz) ∧ (Has wz b2 24 [w32 (Dg.zero).a, w32 (Dg.zero).b, w32 (Dg.zero).c, w32 (Dg.zero).d]) ∧ (Has wz b6 75 [w32 (st.a), w32 (st.b), w32 (st.c), w32 (st.d), w32 (st.e), w32 (st.f), w32 (st.g), w32 (st.h)]) ∧ (SlT W32 0 0 (LL) x31 wz) ∧ (st.takes (LL.drop i) = (St.first 1).takes LL) ∧ (i % 4 = 0) ∧ (i ≤ LL.length)) ?_ ?_
 exact ⟨_, 0, (St.first 1), rfl, N15, D15, s2_15, s4_15, s6_15, s7_15, E15, B2_15, B6_15, X31_15, rfl, rfl, Nat.zero_le _⟩
 rintro mz a16 wd16 ⟨i, st, rfl, N16, D16, s2_16, s4_16, s6_16, s7_16, E16, B2_16, B6_16, X31_16, hst, hi4, hi⟩
 refine wp_seq ?_
 refine wp_seq ?_
 refine Rl [] [(33, Pr.ex (i64 (i : Int))), (34, Pr.ex (x31)), (35, Pr.ex (i64 (LL.length : Int))), (36, Pr.ex (Value.bool (decide ((i : Int) < (LL.length : Int)))))] 4 N16 D16 ?_ ?_
 refine Ac ?_ (Ac ?_ (Ac ?_ (Ac ?_ (Az _))))
 exact Am s7_16 rfl fun _ => rfl
 exact Am s4_16 rfl fun _ => rfl
 exact Ap fun aq wq _ hO hR hT => does_len (T := W32) (xs := LL) sli_58 (SlT.at (hT 34 rfl rfl) (X31_16.ext' hR)) eR
 exact Ap fun aq wq _ hO hR hT => does_lss (a := (i : Int)) (b := (LL.length : Int)) (hT 33 rfl rfl) (hT 35 rfl rfl) eR
 intro a17 wd17 N17 D17 hO hR hA hU
 obtain ⟨_, _, _, t36, _⟩ := hA
 have E17 := E16.trans hR
 have s2_17 := oT hO s2_16 rfl
 have s4_17 := oT hO s4_16 rfl
 have s6_17 := oT hO s6_16 rfl
 have s7_17 := oT hO s7_16 rfl
 have B2_17 := B2_16.ext' hR
 have B6_17 := B6_16.ext' hR
 have X31_17 := X31_16.ext' hR
 have s36_17 : get a17 36 = Value.bool (decide ((i : Int) < (LL.length : Int))) := t36
 clear E16 N16 D16 s2_16 s4_16 s6_16 s7_16 B2_16 B6_16 X31_16
 refine tail_nil ?_
 refine wp_if (B := decide ((i : Int) < (LL.length : Int))) s36_17 (fun hc1 => ?_) (fun hc1 => ?_)
 have hc1 := of_decide_eq_true hc1
 obtain ⟨p, q, r, t, m', hm4⟩ := four_of (l := LL.drop i) (by rw [List.length_drop]; omega)
 refine wp_skip ?_
 refine wp_seq ?_
 refine wp_block ?_
 refine Ra [] [(39, Pr.ex (Value.agg #[w32 (st.a), w32 (st.b), w32 (st.c), w32 (st.d), w32 (st.e), w32 (st.f), w32 (st.g), w32 (st.h)])), (40, Pr.ex (x31)), (41, Pr.ex (i64 (i : Int))), (42, Pr.pt' 0 0 [w32 (p)]), (43, Pr.ex (w32 (p))), (44, Pr.ex (x31)), (45, Pr.ex (i64 (i : Int))), (46, Pr.ex (i64 ((i + 1 : Nat) : Int))), (47, Pr.pt' 0 0 [w32 (q)]), (48, Pr.ex (w32 (q))), (49, Pr.ex (x31)), (50, Pr.ex (i64 (i : Int))), (51, Pr.ex (i64 ((i + 2 : Nat) : Int))), (52, Pr.pt' 0 0 [w32 (r)]), (53, Pr.ex (w32 (r))), (54, Pr.ex (x31)), (55, Pr.ex (i64 (i : Int))), (56, Pr.ex (i64 ((i + 3 : Nat) : Int))), (57, Pr.pt' 0 0 [w32 (t)]), (58, Pr.ex (w32 (t))), (59, Pr.ex (Dg.val ((⟨p, q, r, t⟩ : Dg)))), (60, Pr.ex (Value.agg #[w32 ((st.take ((⟨p, q, r, t⟩ : Dg))).a), w32 ((st.take ((⟨p, q, r, t⟩ : Dg))).b), w32 ((st.take ((⟨p, q, r, t⟩ : Dg))).c), w32 ((st.take ((⟨p, q, r, t⟩ : Dg))).d), w32 ((st.take ((⟨p, q, r, t⟩ : Dg))).e), w32 ((st.take ((⟨p, q, r, t⟩ : Dg))).f), w32 ((st.take ((⟨p, q, r, t⟩ : Dg))).g), w32 ((st.take ((⟨p, q, r, t⟩ : Dg))).h)]))] 22 mixed N17 D17 ?_ ?_
 refine Ac ?_ (Ac ?_ (Ac ?_ (Ac ?_ (Ac ?_ (Ac ?_ (Ac ?_ (Ac ?_ (Ac ?_ (Ac ?_ (Ac ?_ (Ac ?_ (Ac ?_ (Ac ?_ (Ac ?_ (Ac ?_ (Ac ?_ (Ac ?_ (Ac ?_ (Ac ?_ (Ac ?_ (Ac ?_ (Az _))))))))))))))))))))))
 exact Ad fun aq wq _ hO hR hT => does_loadD (o := 0) (n := 8) (mid := [w32 (st.a), w32 (st.b), w32 (st.c), w32 (st.d), w32 (st.e), w32 (st.f), w32 (st.g), w32 (st.h)]) (oT hO s6_17 rfl) (B6_17.ext' hR) rfl rfl (nB rfl) row_75 rfl eR
 exact Am s4_17 rfl fun _ => rfl
 exact Am s7_17 rfl fun _ => rfl
 exact Ad fun aq wq _ hO hR hT => does_indexSl (T := W32) (xs := LL) (i := (i : Int)) (X := p) sli_58 rfl (SlT.at (hT 40 rfl rfl) (X31_17.ext' hR)) (hT 41 rfl rfl) (by omega) (by have h := drop_get hm4 0; exact h) (fun v h => ⟨Ext.refl _, h⟩)
 exact Ad fun aq wq _ hO hR hT => does_loadP1 (V := w32 (p)) (hT 42 rfl rfl) one_22 eR
 exact Am s4_17 rfl fun _ => rfl
 exact Am s7_17 rfl fun _ => rfl
 exact Ad fun aq wq _ hO hR hT => does_add (a := (i : Int)) (b := ((1 : Nat) : Int)) (r := ((i + 1 : Nat) : Int)) (hT 45 rfl rfl) rfl (by omega) (by omega) (by omega) eR
 exact Ad fun aq wq _ hO hR hT => does_indexSl (T := W32) (xs := LL) (i := ((i + 1 : Nat) : Int)) (X := q) sli_58 rfl (SlT.at (hT 44 rfl rfl) (X31_17.ext' hR)) (hT 46 rfl rfl) (by omega) (by have h := drop_get hm4 1; exact h) (fun v h => ⟨Ext.refl _, h⟩)
 exact Ad fun aq wq _ hO hR hT => does_loadP1 (V := w32 (q)) (hT 47 rfl rfl) one_22 eR
 exact Am s4_17 rfl fun _ => rfl
 exact Am s7_17 rfl fun _ => rfl
 exact Ad fun aq wq _ hO hR hT => does_add (a := (i : Int)) (b := ((2 : Nat) : Int)) (r := ((i + 2 : Nat) : Int)) (hT 50 rfl rfl) rfl (by omega) (by omega) (by omega) eR
 exact Ad fun aq wq _ hO hR hT => does_indexSl (T := W32) (xs := LL) (i := ((i + 2 : Nat) : Int)) (X := r) sli_58 rfl (SlT.at (hT 49 rfl rfl) (X31_17.ext' hR)) (hT 51 rfl rfl) (by omega) (by have h := drop_get hm4 2; exact h) (fun v h => ⟨Ext.refl _, h⟩)
 exact Ad fun aq wq _ hO hR hT => does_loadP1 (V := w32 (r)) (hT 52 rfl rfl) one_22 eR
 exact Am s4_17 rfl fun _ => rfl
 exact Am s7_17 rfl fun _ => rfl
 exact Ad fun aq wq _ hO hR hT => does_add (a := (i : Int)) (b := ((3 : Nat) : Int)) (r := ((i + 3 : Nat) : Int)) (hT 55 rfl rfl) rfl (by omega) (by omega) (by omega) eR
 exact Ad fun aq wq _ hO hR hT => does_indexSl (T := W32) (xs := LL) (i := ((i + 3 : Nat) : Int)) (X := t) sli_58 rfl (SlT.at (hT 54 rfl rfl) (X31_17.ext' hR)) (hT 56 rfl rfl) (by omega) (by have h := drop_get hm4 3; exact h) (fun v h => ⟨Ext.refl _, h⟩)
 exact Ad fun aq wq _ hO hR hT => does_loadP1 (V := w32 (t)) (hT 57 rfl rfl) one_22 eR
 exact Ad fun aq wq _ hO hR hT => does_build (vs := #[(0, w32 (p)), (1, w32 (q)), (2, w32 (r)), (3, w32 (t))]) (V := Dg.val ((⟨p, q, r, t⟩ : Dg))) (parts4 (hT 43 rfl rfl) (hT 48 rfl rfl) (hT 53 rfl rfl) (hT 58 rfl rfl)) (by kernel_rfl) eR
 exact Ad fun aq wq _ hO hR hT => does_ret (vs := #[Value.agg #[w32 (st.a), w32 (st.b), w32 (st.c), w32 (st.d), w32 (st.e), w32 (st.f), w32 (st.g), w32 (st.h)], Dg.val ((⟨p, q, r, t⟩ : Dg))]) call_37 (args2 (hT 39 rfl rfl) (hT 59 rfl rfl)) rfl ((takeR st ((⟨p, q, r, t⟩ : Dg)) wq).mono fun v w2 h => ⟨h.2, h.1⟩)
 intro a18 wd18 N18 D18 hO hR hA hU
 obtain ⟨_, _, _, _, _, _, _, _, _, _, _, _, _, _, _, _, _, _, _, _, _, t60, _⟩ := hA
 have E18 := E17.trans hR
 have s2_18 := oT hO s2_17 rfl
 have s4_18 := oT hO s4_17 rfl
 have s6_18 := oT hO s6_17 rfl
 have s7_18 := oT hO s7_17 rfl
 have B2_18 := B2_17.ext' hR
 have B6_18 := B6_17.ext' hR
 have X31_18 := X31_17.ext' hR
 have s60_18 : get a18 60 = Value.agg #[w32 ((st.take ((⟨p, q, r, t⟩ : Dg))).a), w32 ((st.take ((⟨p, q, r, t⟩ : Dg))).b), w32 ((st.take ((⟨p, q, r, t⟩ : Dg))).c), w32 ((st.take ((⟨p, q, r, t⟩ : Dg))).d), w32 ((st.take ((⟨p, q, r, t⟩ : Dg))).e), w32 ((st.take ((⟨p, q, r, t⟩ : Dg))).f), w32 ((st.take ((⟨p, q, r, t⟩ : Dg))).g), w32 ((st.take ((⟨p, q, r, t⟩ : Dg))).h)] := t60
 clear E17 N17 D17 s2_17 s4_17 s6_17 s7_17 s36_17 B2_17 B6_17 X31_17
 refine tail_none rfl rfl (does_storeD (o := 0) (n := 8) (cs' := [w32 ((st.take ((⟨p, q, r, t⟩ : Dg))).a), w32 ((st.take ((⟨p, q, r, t⟩ : Dg))).b), w32 ((st.take ((⟨p, q, r, t⟩ : Dg))).c), w32 ((st.take ((⟨p, q, r, t⟩ : Dg))).d), w32 ((st.take ((⟨p, q, r, t⟩ : Dg))).e), w32 ((st.take ((⟨p, q, r, t⟩ : Dg))).f), w32 ((st.take ((⟨p, q, r, t⟩ : Dg))).g), w32 ((st.take ((⟨p, q, r, t⟩ : Dg))).h)]) (V := Value.agg #[w32 ((st.take ((⟨p, q, r, t⟩ : Dg))).a), w32 ((st.take ((⟨p, q, r, t⟩ : Dg))).b), w32 ((st.take ((⟨p, q, r, t⟩ : Dg))).c), w32 ((st.take ((⟨p, q, r, t⟩ : Dg))).d), w32 ((st.take ((⟨p, q, r, t⟩ : Dg))).e), w32 ((st.take ((⟨p, q, r, t⟩ : Dg))).f), w32 ((st.take ((⟨p, q, r, t⟩ : Dg))).g), w32 ((st.take ((⟨p, q, r, t⟩ : Dg))).h)]) s6_18 s60_18 B6_18 (nB rfl) rfl siz_75 rfl rfl (fun wd19 hX hz B6_19 => ?_))
 have E19 := E18.since hX (fun k e => e ▸ fr_b6)
 have B2_19 := B2_18.ext hX ne_b2_b6
 have X31_19 := SlT.over X31_18 hX nb_x31_b6
 clear hX hz E18 B2_18 B6_18 X31_18
 refine tail_nil ?_
 refine Rl [] [(37, Pr.ex (i64 (i : Int))), (38, Pr.ex (i64 ((i + 4 : Nat) : Int)))] 2 N18 D18 ?_ ?_
 refine Ac ?_ (Ac ?_ (Az _))
 exact Am s7_18 rfl fun _ => rfl
 exact Ap fun aq wq _ hO hR hT => does_add (a := (i : Int)) (b := ((4 : Nat) : Int)) (r := ((i + 4 : Nat) : Int)) (hT 37 rfl rfl) rfl (by omega) (by omega) (by omega) eR
 intro a20 wd20 N20 D20 hO hR hA hU
 obtain ⟨_, t38, _⟩ := hA
 have E20 := E19.trans hR
 have s2_20 := oT hO s2_18 rfl
 have s4_20 := oT hO s4_18 rfl
 have s6_20 := oT hO s6_18 rfl
 have s7_20 := oT hO s7_18 rfl
 have B2_20 := B2_19.ext' hR
 have B6_20 := B6_19.ext' hR
 have X31_20 := X31_19.ext' hR
 have s38_20 : get a20 38 = i64 ((i + 4 : Nat) : Int) := t38
 clear E19 N18 D18 s2_18 s4_18 s6_18 s7_18 s60_18 B2_19 B6_19 X31_19
 refine tail_put rfl rfl N20 D20 (by decide) (does_assign (V := i64 ((i + 4 : Nat) : Int)) s38_20 (fun a21 N21 D21 hv hO => ?_))
 have s7_21 := hv
 have s2_21 := oT hO s2_20 rfl
 have s4_21 := oT hO s4_20 rfl
 have s6_21 := oT hO s6_20 rfl
 clear hO hv N20 D20 s2_20 s4_20 s6_20 s38_20 s7_20
 refine tail_nil ?_
 exact ⟨_, by omega, i + 4, (st.take ⟨p, q, r, t⟩), rfl, N21, D21, s2_21, s4_21, s6_21, s7_21, E20, B2_20, B6_20, X31_20, by rw [← hst, hm4, drop_four hm4]; rfl, by omega, by omega⟩
 have hc1 := of_decide_eq_false hc1
 refine wp_exit ?_
 refine wp_seq ?_
 refine Rl [] [(61, Pr.ex (Value.pointer (some ⟨b6, 0, none⟩))), (62, Pr.ex (w32 (st.a))), (63, Pr.ex (Value.pointer (some ⟨b6, 1, none⟩))), (64, Pr.ex (w32 (st.b))), (65, Pr.ex (Value.pointer (some ⟨b6, 2, none⟩))), (66, Pr.ex (w32 (st.c))), (67, Pr.ex (Value.pointer (some ⟨b6, 3, none⟩))), (68, Pr.ex (w32 (st.d))), (69, Pr.ex (Dg.val ((⟨st.a, st.b, st.c, st.d⟩ : Dg))))] 9 N17 D17 ?_ ?_
 refine Ac ?_ (Ac ?_ (Ac ?_ (Ac ?_ (Ac ?_ (Ac ?_ (Ac ?_ (Ac ?_ (Ac ?_ (Az _)))))))))
 exact Ap fun aq wq _ hO hR hT => does_indexArr (k := .i64) (i := 0) (o' := 0) arr_75 (oT hO s6_17 rfl) rfl (by decide) (by decide) rfl eR
 exact Ap fun aq wq _ hO hR hT => does_loadD1 (o := 0) (V := w32 (st.a)) (hT 61 rfl rfl) (B6_17.ext' hR) rfl one_22 eR
 exact Ap fun aq wq _ hO hR hT => does_indexArr (k := .i64) (i := 1) (o' := 1) arr_75 (oT hO s6_17 rfl) rfl (by decide) (by decide) rfl eR
 exact Ap fun aq wq _ hO hR hT => does_loadD1 (o := 1) (V := w32 (st.b)) (hT 63 rfl rfl) (B6_17.ext' hR) rfl one_22 eR
 exact Ap fun aq wq _ hO hR hT => does_indexArr (k := .i64) (i := 2) (o' := 2) arr_75 (oT hO s6_17 rfl) rfl (by decide) (by decide) rfl eR
 exact Ap fun aq wq _ hO hR hT => does_loadD1 (o := 2) (V := w32 (st.c)) (hT 65 rfl rfl) (B6_17.ext' hR) rfl one_22 eR
 exact Ap fun aq wq _ hO hR hT => does_indexArr (k := .i64) (i := 3) (o' := 3) arr_75 (oT hO s6_17 rfl) rfl (by decide) (by decide) rfl eR
 exact Ap fun aq wq _ hO hR hT => does_loadD1 (o := 3) (V := w32 (st.d)) (hT 67 rfl rfl) (B6_17.ext' hR) rfl one_22 eR
 exact Ap fun aq wq _ hO hR hT => does_build (vs := #[(0, w32 (st.a)), (1, w32 (st.b)), (2, w32 (st.c)), (3, w32 (st.d))]) (V := Dg.val ((⟨st.a, st.b, st.c, st.d⟩ : Dg))) (parts4 (hT 62 rfl rfl) (hT 64 rfl rfl) (hT 66 rfl rfl) (hT 68 rfl rfl)) (by kernel_rfl) eR
 intro a22 wd22 N22 D22 hO hR hA hU
 obtain ⟨_, _, _, _, _, _, _, _, t69, _⟩ := hA
 have E22 := E17.trans hR
 have s2_22 := oT hO s2_17 rfl
 have B2_22 := B2_17.ext' hR
 have B6_22 := B6_17.ext' hR
 have X31_22 := X31_17.ext' hR
 have s69_22 : get a22 69 = Dg.val ((⟨st.a, st.b, st.c, st.d⟩ : Dg)) := t69
 clear E17 N17 D17 s2_17 s4_17 s6_17 s7_17 s36_17 B2_17 B6_17 X31_17
 refine tail_none rfl rfl (does_storeD (o := 0) (n := 4) (cs' := [w32 ((⟨st.a, st.b, st.c, st.d⟩ : Dg)).a, w32 ((⟨st.a, st.b, st.c, st.d⟩ : Dg)).b, w32 ((⟨st.a, st.b, st.c, st.d⟩ : Dg)).c, w32 ((⟨st.a, st.b, st.c, st.d⟩ : Dg)).d]) (V := Dg.val ((⟨st.a, st.b, st.c, st.d⟩ : Dg))) s2_22 s69_22 B2_22 (nB rfl) rfl siz_24 rfl rfl (fun wd23 hX hz B2_23 => ?_))
 have E23 := E22.since hX (fun k e => e ▸ fr_b2)
 have B6_23 := B6_22.ext hX ne_b2_b6.symm
 have X31_23 := SlT.over X31_22 hX (fun _ => nbo_x31_b2)
 clear hX hz E22 B2_22 B6_22 X31_22
 refine tail_nil ?_
 refine wp_ret ?_
 refine res_one (V := Dg.val ((⟨st.a, st.b, st.c, st.d⟩ : Dg))) rfl D22 (ResIs.cell s2_22 B2_23 row_24 rfl rfl) ?_
 have hz : LL.drop i = [] := List.drop_eq_nil_of_le (by omega)
 rw [hz] at hst
 have hst2 : st = (St.first 1).takes LL := hst
 exact ⟨by show Dg.val _ = Dg.val _; rw [← ofR_eq s hn hj2 hLL, ← hst2]; rfl, E23⟩

end Go.Proofs.YtmmghpbncejfiaaDoor
