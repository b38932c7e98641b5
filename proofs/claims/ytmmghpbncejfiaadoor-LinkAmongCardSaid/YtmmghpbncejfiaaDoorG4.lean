/- The walks of functions of the program: printed. -/
import Derived.Test.YtmmghpbncejfiaaDoorG3
import Derived.Test.YtmmghpbncejfiaaDoorF0
set_option maxRecDepth 100000
namespace Go.Proofs.YtmmghpbncejfiaaDoor
open Go Go.RowKit Sk Sd
theorem bytes_ (l : List UInt32) (x1 : Value) (w0 : World) (hx1 : SlT W32 0 0 l x1 w0) (hn : l.length ≤ 1048576) :
    Gives Tryd.prog 20 #[x1] w0 (Pr.ex (str (wbytes l))) := by
 refine enter (N := 33) Tryd.func20 rfl rfl ?_
 intro a0 N0 D0 hA
 have s0_0 : get a0 0 = x1 := hA 0 _ rfl
 clear hA
 have E0 : Ext w0 w0 := Ext.refl w0
 have X1_0 := hx1.close
 refine wp_seq ?_
 refine Rl [] [(2, Pr.ex (str (([] : List UInt8))))] 1 N0 D0 ?_ ?_
 refine Ac ?_ (Az _)
 exact Ap fun aq wq _ hO hR hT => does_assign (V := str (([] : List UInt8))) rfl eR
 intro a1 wd1 N1 D1 hO hR hA hU
 obtain ⟨_, _⟩ := hA
 have E1 := E0.trans hR
 have s0_1 := oT hO s0_0 rfl
 have X1_1 := X1_0.ext' hR
 clear E0 N0 D0 s0_0 X1_0
 refine tail_nil ?_
 refine wp_seq ?_
 refine Rl [] [(6, Pr.ex (x1)), (7, Pr.ex (i64 (l.length : Int))), (8, Pr.ex (i64 ((4 * l.length : Nat) : Int))), (9, Pr.own' W8 wd1.heap.size 5 ([])), (3, Pr.own' W8 wd1.heap.size 5 ([]))] 5 N1 D1 ?_ ?_
 refine Ac ?_ (Ac ?_ (Ac ?_ (Ac ?_ (Ac ?_ (Az _)))))
 exact Am s0_1 rfl fun _ => rfl
 exact Ap fun aq wq _ hO hR hT => does_len (T := W32) (xs := l) sli_58 (SlT.at (hT 6 rfl rfl) (X1_1.ext' hR)) eR
 exact Ap fun aq wq _ hO hR hT => does_mul (a := ((4 : Nat) : Int)) (b := (l.length : Int)) (r := ((4 * l.length : Nat) : Int)) rfl (hT 7 rfl rfl) (by simp) (by omega) (by omega) eR
 exact Ap fun aq wq _ hO hR hT => does_make0 (T := W8) (c := 4 * l.length) app_68 rfl rfl (hT 8 rfl rfl) (by omega) (by unfold maxLen; omega) (fun v w2 he _ ho => ⟨he, OwnT.base ho hR.size'⟩)
 exact Ap fun aq wq _ hO hR hT => does_assign rfl ⟨Ext.refl _, (hT 9 rfl rfl)⟩
 intro a2 wd2 N2 D2 hO hR hA hU
 obtain ⟨_, _, _, _, t3, _⟩ := hA
 have E2 := E1.trans hR
 have s0_2 := oT hO s0_1 rfl
 have X1_2 := X1_1.ext' hR
 obtain ⟨x3, s3_2⟩ : ∃ x, get a2 3 = x := ⟨_, rfl⟩
 replace t3 : OwnT W8 wd1.heap.size 5 ([]) x3 wd2 := by rw [← s3_2]; exact t3
 have X3_2 := t3.sl.wide (Nat.zero_le _) (.inl rfl)
 have O3_2 := OwnT.base t3 E1.size'
 clear E1 N1 D1 s0_1 X1_1
 refine tail_nil ?_
 refine wp_seq ?_
 refine wp_seq ?_
 refine Rl [] [(10, Pr.ex (x1)), (11, Pr.ex (i64 (l.length : Int))), (12, Pr.ex (i64 ((0 : Nat) : Int)))] 3 N2 D2 ?_ ?_
 refine Ac ?_ (Ac ?_ (Ac ?_ (Az _)))
 exact Am s0_2 rfl fun _ => rfl
 exact Ap fun aq wq _ hO hR hT => does_len (T := W32) (xs := l) sli_58 (SlT.at (hT 10 rfl rfl) (X1_2.ext' hR)) eR
 exact Ap fun aq wq _ hO hR hT => does_move (V := i64 ((0 : Nat) : Int)) rfl eR
 intro a3 wd3 N3 D3 hO hR hA hU
 obtain ⟨t10, t11, t12, _⟩ := hA
 have E3 := E2.trans hR
 have s3_3 := oT hO s3_2 rfl
 have X1_3 := X1_2.ext' hR
 have X3_3 := X3_2.ext' hR
 have O3_3 := O3_2.ext' hR
 have s10_3 : get a3 10 = x1 := t10
 have s11_3 : get a3 11 = i64 (l.length : Int) := t11
 have s12_3 : get a3 12 = i64 ((0 : Nat) : Int) := t12
 clear E2 N2 D2 s0_2 s3_2 X1_2 X3_2 O3_2
 refine tail_nil ?_
 refine wp_block ?_
 refine loop_g (fun mz az wz => ∃ k : Nat, ∃ xo : Value, mz = l.length - k ∧ (az.tmps.size = 33) ∧ (az.defers = []) ∧ (get az 3 = xo) ∧ (get az 10 = x1) ∧ (get az 11 = i64 (l.length : Int)) ∧ (get az 12 = i64 (k : Int)) ∧ (Ext w0 wz) ∧ (SlT W32 0 (w0.heap.size + 1) (l) x1 wz) ∧ (OwnT W8 w0.heap.size 5 (wbytes (l.take k)) xo wz) ∧ (k ≤ l.length)) ?_ ?_
 exact ⟨_, 0, x3, rfl, N3, D3, s3_3, s10_3, s11_3, s12_3, E3, X1_3, O3_3, Nat.zero_le _⟩
 rintro mz a4 wd4 ⟨k, xo, rfl, N4, D4, s3_4, s10_4, s11_4, s12_4, E4, X1_4, hoxo_4, hk⟩
 have hsxo_4 := hoxo_4.sl.wide (Nat.zero_le _) (.inl rfl)
 refine wp_seq ?_
 refine Rl [] [(13, Pr.ex (Value.bool (decide ((k : Int) < (l.length : Int)))))] 1 N4 D4 ?_ ?_
 refine Ac ?_ (Az _)
 exact Ap fun aq wq _ hO hR hT => does_lss (a := (k : Int)) (b := (l.length : Int)) (oT hO s12_4 rfl) (oT hO s11_4 rfl) eR
 intro a5 wd5 N5 D5 hO hR hA hU
 obtain ⟨t13, _⟩ := hA
 have E5 := E4.trans hR
 have s3_5 := oT hO s3_4 rfl
 have s10_5 := oT hO s10_4 rfl
 have s11_5 := oT hO s11_4 rfl
 have s12_5 := oT hO s12_4 rfl
 have X1_5 := X1_4.ext' hR
 have hsxo_5 := hsxo_4.ext' hR
 have hoxo_5 := hoxo_4.ext' hR
 have s13_5 : get a5 13 = Value.bool (decide ((k : Int) < (l.length : Int))) := t13
 clear E4 N4 D4 s3_4 s10_4 s11_4 s12_4 X1_4 hsxo_4 hoxo_4
 refine tail_nil ?_
 refine wp_seq ?_
 refine wp_if (B := decide ((k : Int) < (l.length : Int))) s13_5 (fun hc0 => ?_) (fun hc0 => ?_)
 have hc0 := of_decide_eq_true hc0
 obtain ⟨x, hx⟩ := get_of_lt (l := l) (k := k) (by omega)
 refine wp_skip ?_
 refine wp_seq ?_
 refine wp_block ?_
 refine wp_seq ?_
 refine Rl [] [(14, Pr.pt' 0 (w0.heap.size + 1) [w32 (x)]), (15, Pr.ex (w32 (x))), (5, Pr.ex (w32 (x)))] 3 N5 D5 ?_ ?_
 refine Ac ?_ (Ac ?_ (Ac ?_ (Az _)))
 exact Ap fun aq wq _ hO hR hT => does_indexSl (T := W32) (xs := l) (i := (k : Int)) (X := x) sli_58 rfl (SlT.at (oT hO s10_5 rfl) (X1_5.ext' hR)) (oT hO s12_5 rfl) (by omega) hx (fun v h => ⟨Ext.refl _, h⟩)
 exact Ap fun aq wq _ hO hR hT => does_loadP1 (V := w32 (x)) (hT 14 rfl rfl) one_22 eR
 exact Ap fun aq wq _ hO hR hT => does_assign (V := w32 (x)) (hT 15 rfl rfl) eR
 intro a6 wd6 N6 D6 hO hR hA hU
 obtain ⟨_, _, t5, _⟩ := hA
 have E6 := E5.trans hR
 have s3_6 := oT hO s3_5 rfl
 have s10_6 := oT hO s10_5 rfl
 have s11_6 := oT hO s11_5 rfl
 have s12_6 := oT hO s12_5 rfl
 have X1_6 := X1_5.ext' hR
 have hsxo_6 := hsxo_5.ext' hR
 have hoxo_6 := hoxo_5.ext' hR
 have s5_6 : get a6 5 = w32 (x) := t5
 clear E5 N5 D5 s3_5 s10_5 s11_5 s12_5 s13_5 X1_5 hsxo_5 hoxo_5
 refine tail_nil ?_
 refine Rl [] [(16, Pr.ex (xo)), (17, Pr.ex (w32 (x))), (18, Pr.ex (w8 (UInt8.ofNat (x).toNat))), (19, Pr.ex (w32 (x))), (20, Pr.ex (w32 (UInt32.ofNat ((x).toNat / 2 ^ 8)))), (21, Pr.ex (w8 (UInt8.ofNat (UInt32.ofNat ((x).toNat / 2 ^ 8)).toNat))), (22, Pr.ex (w32 (x))), (23, Pr.ex (w32 (UInt32.ofNat ((x).toNat / 2 ^ 16)))), (24, Pr.ex (w8 (UInt8.ofNat (UInt32.ofNat ((x).toNat / 2 ^ 16)).toNat))), (25, Pr.ex (w32 (x))), (26, Pr.ex (w32 (UInt32.ofNat ((x).toNat / 2 ^ 24)))), (27, Pr.ex (w8 (UInt8.ofNat (UInt32.ofNat ((x).toNat / 2 ^ 24)).toNat))), (28, Pr.own' W8 wd6.heap.size 5 ([UInt8.ofNat (x).toNat, UInt8.ofNat (UInt32.ofNat ((x).toNat / 2 ^ 8)).toNat, UInt8.ofNat (UInt32.ofNat ((x).toNat / 2 ^ 16)).toNat, UInt8.ofNat (UInt32.ofNat ((x).toNat / 2 ^ 24)).toNat]))] 13 N6 D6 ?_ ?_
 refine Ac ?_ (Ac ?_ (Ac ?_ (Ac ?_ (Ac ?_ (Ac ?_ (Ac ?_ (Ac ?_ (Ac ?_ (Ac ?_ (Ac ?_ (Ac ?_ (Ac ?_ (Az _)))))))))))))
 exact Am s3_6 rfl fun _ => rfl
 exact Am s5_6 rfl fun _ => rfl
 exact Ap fun aq wq _ hO hR hT => does_conv ⟨_, Tryd.underlying22⟩ Tryd.underlying5 (hT 17 rfl rfl) (wrap_u8 _) eR
 exact Am s5_6 rfl fun _ => rfl
 exact Ap fun aq wq _ hO hR hT => does_shr32 (a := x) (b := 8) (hT 19 rfl rfl) rfl (by decide) eR
 exact Ap fun aq wq _ hO hR hT => does_conv ⟨_, Tryd.underlying22⟩ Tryd.underlying5 (hT 20 rfl rfl) (wrap_u8 _) eR
 exact Am s5_6 rfl fun _ => rfl
 exact Ap fun aq wq _ hO hR hT => does_shr32 (a := x) (b := 16) (hT 22 rfl rfl) rfl (by decide) eR
 exact Ap fun aq wq _ hO hR hT => does_conv ⟨_, Tryd.underlying22⟩ Tryd.underlying5 (hT 23 rfl rfl) (wrap_u8 _) eR
 exact Am s5_6 rfl fun _ => rfl
 exact Ap fun aq wq _ hO hR hT => does_shr32 (a := x) (b := 24) (hT 25 rfl rfl) rfl (by decide) eR
 exact Ap fun aq wq _ hO hR hT => does_conv ⟨_, Tryd.underlying22⟩ Tryd.underlying5 (hT 26 rfl rfl) (wrap_u8 _) eR
 exact Ap fun aq wq _ hO hR hT => does_sliceN (T := W8) (xs := [UInt8.ofNat (x).toNat, UInt8.ofNat (UInt32.ofNat ((x).toNat / 2 ^ 8)).toNat, UInt8.ofNat (UInt32.ofNat ((x).toNat / 2 ^ 16)).toNat, UInt8.ofNat (UInt32.ofNat ((x).toNat / 2 ^ 24)).toNat]) (vs := [w8 (UInt8.ofNat (x).toNat), w8 (UInt8.ofNat (UInt32.ofNat ((x).toNat / 2 ^ 8)).toNat), w8 (UInt8.ofNat (UInt32.ofNat ((x).toNat / 2 ^ 16)).toNat), w8 (UInt8.ofNat (UInt32.ofNat ((x).toNat / 2 ^ 24)).toNat)]) app_68 rfl (parts4 (hT 18 rfl rfl) (hT 21 rfl rfl) (hT 24 rfl rfl) (hT 27 rfl rfl)) rfl (by decide) (by decide) rfl (fun v w2 he _ ho => ⟨he, OwnT.base ho hR.size'⟩)
 intro a7 wd7 N7 D7 hO hR hA hU
 obtain ⟨t16, _, _, _, _, _, _, _, _, _, _, _, t28, _⟩ := hA
 have E7 := E6.trans hR
 have s3_7 := oT hO s3_6 rfl
 have s10_7 := oT hO s10_6 rfl
 have s11_7 := oT hO s11_6 rfl
 have s12_7 := oT hO s12_6 rfl
 have X1_7 := X1_6.ext' hR
 have hsxo_7 := hsxo_6.ext' hR
 have hoxo_7 := hoxo_6.ext' hR
 have s16_7 : get a7 16 = xo := t16
 obtain ⟨x28, s28_7⟩ : ∃ x, get a7 28 = x := ⟨_, rfl⟩
 replace t28 : OwnT W8 wd6.heap.size 5 ([UInt8.ofNat (x).toNat, UInt8.ofNat (UInt32.ofNat ((x).toNat / 2 ^ 8)).toNat, UInt8.ofNat (UInt32.ofNat ((x).toNat / 2 ^ 16)).toNat, UInt8.ofNat (UInt32.ofNat ((x).toNat / 2 ^ 24)).toNat]) x28 wd7 := by rw [← s28_7]; exact t28
 have no_x28_xo := Oo t28 hoxo_6
 have X28_7 := t28.sl.wide (Nat.zero_le _) (.inl rfl)
 have O28_7 := OwnT.base t28 E6.size'
 clear E6 N6 D6 s3_6 s5_6 s10_6 s11_6 s12_6 X1_6 hsxo_6 hoxo_6
 refine tail_put rfl rfl N7 D7 (by decide) (does_append (T := W8) (base := w0.heap.size) (xs := wbytes (l.take k)) (ys := [UInt8.ofNat (x).toNat, UInt8.ofNat (UInt32.ofNat ((x).toNat / 2 ^ 8)).toNat, UInt8.ofNat (UInt32.ofNat ((x).toNat / 2 ^ 16)).toNat, UInt8.ofNat (UInt32.ofNat ((x).toNat / 2 ^ 24)).toNat]) (v := xo) app_68 s16_7 hoxo_7 (SlT.at s28_7 X28_7) (by simp) (by simp only [List.length_append, bytes_length, List.length_take, List.length_cons, List.length_nil]; omega) (by simp only [List.length_append, bytes_length, List.length_take, List.length_cons, List.length_nil]; omega) E7.size' (fun x29 wd8 hX O29_8 hk a8 N8 D8 hv hO => ?_))
 have E8 := E7.since hX (fun b hb => Nat.le_trans (Nat.le_refl _) (OwnT.block_lt hoxo_7 hb).1)
 have X1_8 := SlT.overOwn X1_7 hoxo_7 hX
 have O28_8 := OwnT.ext O28_7 hX (fun k hk e => no_x28_xo k hk e)
 have no_x29_x28 : ∀ k, x29.ownBlock = some k → x28.ownBlock ≠ some k := fun k e e' => (hk k e).elim (fun h => no_x28_xo k e' h) (fun h => Nat.lt_irrefl _ (Nat.lt_of_lt_of_le (OwnT.block_lt O28_7 e').2 h))
 have X28_8 := O28_8.sl.wide (Nat.zero_le _) (.inl rfl)
 have X29_8 := O29_8.sl.wide (Nat.zero_le _) (.inl rfl)
 rw [bytes_step hx] at O29_8 X29_8
 have s29_8 := hv
 have s3_8 := oT hO s3_7 rfl
 have s10_8 := oT hO s10_7 rfl
 have s11_8 := oT hO s11_7 rfl
 have s12_8 := oT hO s12_7 rfl
 clear hO hv hX hk N7 D7 E7 X1_7 O28_7 s3_7 s10_7 s11_7 s12_7 s16_7 s28_7
 refine tail_put rfl rfl N8 D8 (by decide) (does_assign (V := x29) s29_8 (fun a9 N9 D9 hv hO => ?_))
 have s3_9 := hv
 have s10_9 := oT hO s10_8 rfl
 have s11_9 := oT hO s11_8 rfl
 have s12_9 := oT hO s12_8 rfl
 clear hO hv N8 D8 s10_8 s11_8 s12_8 s29_8 s3_8
 refine tail_nil ?_
 refine Rl [] [(30, Pr.ex (i64 ((k + 1 : Nat) : Int)))] 1 N9 D9 ?_ ?_
 refine Ac ?_ (Az _)
 exact Ap fun aq wq _ hO hR hT => does_add (a := (k : Int)) (b := ((1 : Nat) : Int)) (r := ((k + 1 : Nat) : Int)) (oT hO s12_9 rfl) rfl (by omega) (by omega) (by omega) eR
 intro a10 wd10 N10 D10 hO hR hA hU
 obtain ⟨t30, _⟩ := hA
 have E10 := E8.trans hR
 have s3_10 := oT hO s3_9 rfl
 have s10_10 := oT hO s10_9 rfl
 have s11_10 := oT hO s11_9 rfl
 have s12_10 := oT hO s12_9 rfl
 have X1_10 := X1_8.ext' hR
 have X28_10 := X28_8.ext' hR
 have X29_10 := X29_8.ext' hR
 have O28_10 := O28_8.ext' hR
 have O29_10 := O29_8.ext' hR
 have s30_10 : get a10 30 = i64 ((k + 1 : Nat) : Int) := t30
 clear E8 N9 D9 s3_9 s10_9 s11_9 s12_9 X1_8 X28_8 X29_8 O28_8 O29_8
 refine tail_put rfl rfl N10 D10 (by decide) (does_move (V := i64 ((k + 1 : Nat) : Int)) s30_10 (fun a11 N11 D11 hv hO => ?_))
 have s12_11 := hv
 have s3_11 := oT hO s3_10 rfl
 have s10_11 := oT hO s10_10 rfl
 have s11_11 := oT hO s11_10 rfl
 clear hO hv N10 D10 s3_10 s10_10 s11_10 s30_10 s12_10
 refine tail_nil ?_
 exact ⟨_, by omega, k + 1, x29, rfl, N11, D11, s3_11, s10_11, s11_11, s12_11, E10, X1_10, O29_10, by omega⟩
 have hc0 := of_decide_eq_false hc0
 have hk2 : l.take k = l := List.take_of_length_le (by omega)
 refine wp_exit ?_
 refine wp_seq ?_
 refine Rl [] [(31, Pr.ex (xo)), (32, Pr.ex (str (wbytes (l.take k)))), (2, Pr.ex (str (wbytes (l.take k))))] 3 N5 D5 ?_ ?_
 refine Ac ?_ (Ac ?_ (Ac ?_ (Az _)))
 exact Am s3_5 rfl fun _ => rfl
 exact Ap fun aq wq _ hO hR hT => does_string (l := wbytes (l.take k)) Tryd.underlying9 Tryd.underlying68 Tryd.underlying5 (SlT.at (hT 31 rfl rfl) (hsxo_5.ext' hR)) eR
 exact Ap fun aq wq _ hO hR hT => does_assign (V := str (wbytes (l.take k))) (hT 32 rfl rfl) eR
 intro a12 wd12 N12 D12 hO hR hA hU
 obtain ⟨_, _, t2, _⟩ := hA
 have E12 := E5.trans hR
 have X1_12 := X1_5.ext' hR
 have hsxo_12 := hsxo_5.ext' hR
 have hoxo_12 := hoxo_5.ext' hR
 have s2_12 : get a12 2 = str (wbytes (l.take k)) := t2
 clear E5 N5 D5 s3_5 s10_5 s11_5 s12_5 s13_5 X1_5 hsxo_5 hoxo_5
 refine tail_nil ?_
 refine wp_ret ?_
 refine res_one (V := str (wbytes (l.take k))) rfl D12 s2_12 ?_
 exact ⟨by show str _ = str _; rw [hk2], E12⟩

theorem bytesR (l : List UInt32) (x1 : Value) (w0 : World) (hx1 : SlT W32 0 0 l x1 w0) (hn : l.length ≤ 1048576) :
    Gives Tryd.prog 39 #[x1] w0 (Pr.ex (str (wbytes l))) := by
 refine enter (N := 35) Tryd.func39 rfl rfl ?_
 intro a0 N0 D0 hA
 have s0_0 : get a0 0 = x1 := hA 0 _ rfl
 clear hA
 have E0 : Ext w0 w0 := Ext.refl w0
 have X1_0 := hx1.close
 refine wp_seq ?_
 refine Rl [] [(2, Pr.ex (str (([] : List UInt8))))] 1 N0 D0 ?_ ?_
 refine Ac ?_ (Az _)
 exact Ap fun aq wq _ hO hR hT => does_assign (V := str (([] : List UInt8))) rfl eR
 intro a1 wd1 N1 D1 hO hR hA hU
 obtain ⟨_, _⟩ := hA
 have E1 := E0.trans hR
 have s0_1 := oT hO s0_0 rfl
 have X1_1 := X1_0.ext' hR
 clear E0 N0 D0 s0_0 X1_0
 refine tail_nil ?_
 refine wp_seq ?_
 refine Rl [] [(7, Pr.ex (x1)), (8, Pr.ex (i64 (l.length : Int))), (9, Pr.ex (i64 ((4 * l.length : Nat) : Int))), (10, Pr.own' W8 wd1.heap.size 5 ([])), (3, Pr.own' W8 wd1.heap.size 5 ([]))] 5 N1 D1 ?_ ?_
 refine Ac ?_ (Ac ?_ (Ac ?_ (Ac ?_ (Ac ?_ (Az _)))))
 exact Am s0_1 rfl fun _ => rfl
 exact Ap fun aq wq _ hO hR hT => does_len (T := W32) (xs := l) sli_58 (SlT.at (hT 7 rfl rfl) (X1_1.ext' hR)) eR
 exact Ap fun aq wq _ hO hR hT => does_mul (a := ((4 : Nat) : Int)) (b := (l.length : Int)) (r := ((4 * l.length : Nat) : Int)) rfl (hT 8 rfl rfl) (by simp) (by omega) (by omega) eR
 exact Ap fun aq wq _ hO hR hT => does_make0 (T := W8) (c := 4 * l.length) app_68 rfl rfl (hT 9 rfl rfl) (by omega) (by unfold maxLen; omega) (fun v w2 he _ ho => ⟨he, OwnT.base ho hR.size'⟩)
 exact Ap fun aq wq _ hO hR hT => does_assign rfl ⟨Ext.refl _, (hT 10 rfl rfl)⟩
 intro a2 wd2 N2 D2 hO hR hA hU
 obtain ⟨_, _, _, _, t3, _⟩ := hA
 have E2 := E1.trans hR
 have s0_2 := oT hO s0_1 rfl
 have X1_2 := X1_1.ext' hR
 obtain ⟨x3, s3_2⟩ : ∃ x, get a2 3 = x := ⟨_, rfl⟩
 replace t3 : OwnT W8 wd1.heap.size 5 ([]) x3 wd2 := by rw [← s3_2]; exact t3
 have X3_2 := t3.sl.wide (Nat.zero_le _) (.inl rfl)
 have O3_2 := OwnT.base t3 E1.size'
 clear E1 N1 D1 s0_1 X1_1
 refine tail_nil ?_
 refine wp_seq ?_
 refine wp_seq ?_
 refine Rl [] [(4, Pr.ex (i64 ((0 : Nat) : Int)))] 1 N2 D2 ?_ ?_
 refine Ac ?_ (Az _)
 exact Ap fun aq wq _ hO hR hT => does_assign (V := i64 ((0 : Nat) : Int)) rfl eR
 intro a3 wd3 N3 D3 hO hR hA hU
 obtain ⟨t4, _⟩ := hA
 have E3 := E2.trans hR
 have s0_3 := oT hO s0_2 rfl
 have s3_3 := oT hO s3_2 rfl
 have X1_3 := X1_2.ext' hR
 have X3_3 := X3_2.ext' hR
 have O3_3 := O3_2.ext' hR
 have s4_3 : get a3 4 = i64 ((0 : Nat) : Int) := t4
 clear E2 N2 D2 s0_2 s3_2 X1_2 X3_2 O3_2
 refine tail_nil ?_
 refine wp_block ?_
 refine loop_g (fun mz az wz => ∃ k : Nat, ∃ xo : Value, mz = l.length - k ∧ (az.tmps.size = 35) ∧ (az.defers = []) ∧ (get az 0 = x1) ∧ (get az 3 = xo) ∧ (get az 4 = i64 (k : Int)) ∧ (Ext w0 wz) ∧ (SlT W32 0 (w0.heap.size + 1) (l) x1 wz) ∧ (OwnT W8 w0.heap.size 5 (wbytes (l.take k)) xo wz) ∧ (k ≤ l.length)) ?_ ?_
 exact ⟨_, 0, x3, rfl, N3, D3, s0_3, s3_3, s4_3, E3, X1_3, O3_3, Nat.zero_le _⟩
 rintro mz a4 wd4 ⟨k, xo, rfl, N4, D4, s0_4, s3_4, s4_4, E4, X1_4, hoxo_4, hk⟩
 have hsxo_4 := hoxo_4.sl.wide (Nat.zero_le _) (.inl rfl)
 refine wp_seq ?_
 refine wp_seq ?_
 refine Rl [] [(11, Pr.ex (i64 (k : Int))), (12, Pr.ex (x1)), (13, Pr.ex (i64 (l.length : Int))), (14, Pr.ex (Value.bool (decide ((k : Int) < (l.length : Int)))))] 4 N4 D4 ?_ ?_
 refine Ac ?_ (Ac ?_ (Ac ?_ (Ac ?_ (Az _))))
 exact Am s4_4 rfl fun _ => rfl
 exact Am s0_4 rfl fun _ => rfl
 exact Ap fun aq wq _ hO hR hT => does_len (T := W32) (xs := l) sli_58 (SlT.at (hT 12 rfl rfl) (X1_4.ext' hR)) eR
 exact Ap fun aq wq _ hO hR hT => does_lss (a := (k : Int)) (b := (l.length : Int)) (hT 11 rfl rfl) (hT 13 rfl rfl) eR
 intro a5 wd5 N5 D5 hO hR hA hU
 obtain ⟨_, _, _, t14, _⟩ := hA
 have E5 := E4.trans hR
 have s0_5 := oT hO s0_4 rfl
 have s3_5 := oT hO s3_4 rfl
 have s4_5 := oT hO s4_4 rfl
 have X1_5 := X1_4.ext' hR
 have hsxo_5 := hsxo_4.ext' hR
 have hoxo_5 := hoxo_4.ext' hR
 have s14_5 : get a5 14 = Value.bool (decide ((k : Int) < (l.length : Int))) := t14
 clear E4 N4 D4 s0_4 s3_4 s4_4 X1_4 hsxo_4 hoxo_4
 refine tail_nil ?_
 refine wp_if (B := decide ((k : Int) < (l.length : Int))) s14_5 (fun hc0 => ?_) (fun hc0 => ?_)
 have hc0 := of_decide_eq_true hc0
 obtain ⟨x, hx⟩ := get_of_lt (l := l) (k := k) (by omega)
 refine wp_skip ?_
 refine wp_seq ?_
 refine wp_block ?_
 refine wp_seq ?_
 refine Rl [] [(17, Pr.ex (x1)), (18, Pr.ex (i64 (k : Int))), (19, Pr.pt' 0 (w0.heap.size + 1) [w32 (x)]), (20, Pr.ex (w32 (x))), (5, Pr.ex (w32 (x)))] 5 N5 D5 ?_ ?_
 refine Ac ?_ (Ac ?_ (Ac ?_ (Ac ?_ (Ac ?_ (Az _)))))
 exact Am s0_5 rfl fun _ => rfl
 exact Am s4_5 rfl fun _ => rfl
 exact Ap fun aq wq _ hO hR hT => does_indexSl (T := W32) (xs := l) (i := (k : Int)) (X := x) sli_58 rfl (SlT.at (hT 17 rfl rfl) (X1_5.ext' hR)) (hT 18 rfl rfl) (by omega) hx (fun v h => ⟨Ext.refl _, h⟩)
 exact Ap fun aq wq _ hO hR hT => does_loadP1 (V := w32 (x)) (hT 19 rfl rfl) one_22 eR
 exact Ap fun aq wq _ hO hR hT => does_assign (V := w32 (x)) (hT 20 rfl rfl) eR
 intro a6 wd6 N6 D6 hO hR hA hU
 obtain ⟨_, _, _, _, t5, _⟩ := hA
 have E6 := E5.trans hR
 have s0_6 := oT hO s0_5 rfl
 have s3_6 := oT hO s3_5 rfl
 have s4_6 := oT hO s4_5 rfl
 have X1_6 := X1_5.ext' hR
 have hsxo_6 := hsxo_5.ext' hR
 have hoxo_6 := hoxo_5.ext' hR
 have s5_6 : get a6 5 = w32 (x) := t5
 clear E5 N5 D5 s0_5 s3_5 s4_5 s14_5 X1_5 hsxo_5 hoxo_5
 refine tail_nil ?_
 refine wp_seq ?_
 refine Rl [] [(6, Pr.ex (i64 ((0 : Nat) : Int)))] 1 N6 D6 ?_ ?_
 refine Ac ?_ (Az _)
 exact Ap fun aq wq _ hO hR hT => does_assign (V := i64 ((0 : Nat) : Int)) rfl eR
 intro a7 wd7 N7 D7 hO hR hA hU
 obtain ⟨t6, _⟩ := hA
 have E7 := E6.trans hR
 have s0_7 := oT hO s0_6 rfl
 have s3_7 := oT hO s3_6 rfl
 have s4_7 := oT hO s4_6 rfl
 have s5_7 := oT hO s5_6 rfl
 have X1_7 := X1_6.ext' hR
 have hsxo_7 := hsxo_6.ext' hR
 have hoxo_7 := hoxo_6.ext' hR
 have s6_7 : get a7 6 = i64 ((0 : Nat) : Int) := t6
 clear E6 N6 D6 s0_6 s3_6 s4_6 s5_6 X1_6 hsxo_6 hoxo_6
 refine tail_nil ?_
 refine wp_block ?_
 refine loop_rounds 5 ?_
 refine round_step ?_
 refine wp_seq ?_
 refine wp_seq ?_
 refine Rl [] [(21, Pr.ex (i64 ((0 : Nat) : Int))), (22, Pr.ex (Value.bool (true)))] 2 N7 D7 ?_ ?_
 refine Ac ?_ (Ac ?_ (Az _))
 exact Am s6_7 rfl fun _ => rfl
 exact Ap fun aq wq _ hO hR hT => does_lss (a := ((0 : Nat) : Int)) (b := ((4 : Nat) : Int)) (hT 21 rfl rfl) rfl eR
 intro a8 wd8 N8 D8 hO hR hA hU
 obtain ⟨_, t22, _⟩ := hA
 have E8 := E7.trans hR
 have s0_8 := oT hO s0_7 rfl
 have s3_8 := oT hO s3_7 rfl
 have s4_8 := oT hO s4_7 rfl
 have s5_8 := oT hO s5_7 rfl
 have s6_8 := oT hO s6_7 rfl
 have X1_8 := X1_7.ext' hR
 have hsxo_8 := hsxo_7.ext' hR
 have hoxo_8 := hoxo_7.ext' hR
 have s22_8 : get a8 22 = Value.bool (true) := t22
 clear E7 N7 D7 s0_7 s3_7 s4_7 s5_7 s6_7 X1_7 hsxo_7 hoxo_7
 refine tail_nil ?_
 refine wp_ifT s22_8 ?_
 refine wp_skip ?_
 refine wp_seq ?_
 refine wp_block ?_
 refine wp_seq ?_
 refine Rl [] [(25, Pr.ex (xo)), (26, Pr.ex (w32 (x))), (27, Pr.ex (w32 (UInt32.ofNat ((x : UInt32).toNat % (256 : UInt32).toNat)))), (28, Pr.ex (w8 (UInt8.ofNat (UInt32.ofNat ((x : UInt32).toNat % (256 : UInt32).toNat)).toNat))), (29, Pr.own' W8 wd8.heap.size 5 ([UInt8.ofNat (UInt32.ofNat ((x : UInt32).toNat % (256 : UInt32).toNat)).toNat]))] 5 N8 D8 ?_ ?_
 refine Ac ?_ (Ac ?_ (Ac ?_ (Ac ?_ (Ac ?_ (Az _)))))
 exact Am s3_8 rfl fun _ => rfl
 exact Am s5_8 rfl fun _ => rfl
 exact Ap fun aq wq _ hO hR hT => does_rem32 (a := (x : UInt32)) (b := (256 : UInt32)) (hT 26 rfl rfl) rfl (by decide) eR
 exact Ap fun aq wq _ hO hR hT => does_conv ⟨_, Tryd.underlying22⟩ Tryd.underlying5 (hT 27 rfl rfl) (wrap_u8 _) eR
 exact Ap fun aq wq _ hO hR hT => does_slice1 (T := W8) (X := UInt8.ofNat (UInt32.ofNat ((x : UInt32).toNat % (256 : UInt32).toNat)).toNat) (V := w8 (UInt8.ofNat (UInt32.ofNat ((x : UInt32).toNat % (256 : UInt32).toNat)).toNat)) app_68 rfl (by decide) (hT 28 rfl rfl) rfl (fun v w2 he _ ho => ⟨he, OwnT.base ho hR.size'⟩)
 intro a9 wd9 N9 D9 hO hR hA hU
 obtain ⟨t25, _, _, _, t29, _⟩ := hA
 have E9 := E8.trans hR
 have s0_9 := oT hO s0_8 rfl
 have s3_9 := oT hO s3_8 rfl
 have s4_9 := oT hO s4_8 rfl
 have s5_9 := oT hO s5_8 rfl
 have s6_9 := oT hO s6_8 rfl
 have X1_9 := X1_8.ext' hR
 have hsxo_9 := hsxo_8.ext' hR
 have hoxo_9 := hoxo_8.ext' hR
 have s25_9 : get a9 25 = xo := t25
 obtain ⟨x29, s29_9⟩ : ∃ x, get a9 29 = x := ⟨_, rfl⟩
 replace t29 : OwnT W8 wd8.heap.size 5 ([UInt8.ofNat (UInt32.ofNat ((x : UInt32).toNat % (256 : UInt32).toNat)).toNat]) x29 wd9 := by rw [← s29_9]; exact t29
 have no_x29_xo := Oo t29 hoxo_8
 have X29_9 := t29.sl.wide (Nat.zero_le _) (.inl rfl)
 have O29_9 := OwnT.base t29 E8.size'
 clear E8 N8 D8 s0_8 s3_8 s4_8 s5_8 s6_8 s22_8 X1_8 hsxo_8 hoxo_8
 refine tail_put rfl rfl N9 D9 (by decide) (does_append (T := W8) (base := w0.heap.size) (xs := wbytes (l.take k)) (ys := [UInt8.ofNat (UInt32.ofNat ((x : UInt32).toNat % (256 : UInt32).toNat)).toNat]) (v := xo) app_68 s25_9 hoxo_9 (SlT.at s29_9 X29_9) (by simp) (by simp only [List.length_append, bytes_length, List.length_take, List.length_cons, List.length_nil]; omega) (by simp only [List.length_append, bytes_length, List.length_take, List.length_cons, List.length_nil]; omega) E9.size' (fun x30 wd10 hX O30_10 hk a10 N10 D10 hv hO => ?_))
 have E10 := E9.since hX (fun b hb => Nat.le_trans (Nat.le_refl _) (OwnT.block_lt hoxo_9 hb).1)
 have X1_10 := SlT.overOwn X1_9 hoxo_9 hX
 have O29_10 := OwnT.ext O29_9 hX (fun k hk e => no_x29_xo k hk e)
 have no_x30_x29 : ∀ k, x30.ownBlock = some k → x29.ownBlock ≠ some k := fun k e e' => (hk k e).elim (fun h => no_x29_xo k e' h) (fun h => Nat.lt_irrefl _ (Nat.lt_of_lt_of_le (OwnT.block_lt O29_9 e').2 h))
 have X29_10 := O29_10.sl.wide (Nat.zero_le _) (.inl rfl)
 have X30_10 := O30_10.sl.wide (Nat.zero_le _) (.inl rfl)
 have s30_10 := hv
 have s0_10 := oT hO s0_9 rfl
 have s3_10 := oT hO s3_9 rfl
 have s4_10 := oT hO s4_9 rfl
 have s5_10 := oT hO s5_9 rfl
 have s6_10 := oT hO s6_9 rfl
 clear hO hv hX hk N9 D9 E9 X1_9 O29_9 s0_9 s3_9 s4_9 s5_9 s6_9 s25_9 s29_9
 refine tail_put rfl rfl N10 D10 (by decide) (does_assign (V := x30) s30_10 (fun a11 N11 D11 hv hO => ?_))
 have s3_11 := hv
 have s0_11 := oT hO s0_10 rfl
 have s4_11 := oT hO s4_10 rfl
 have s5_11 := oT hO s5_10 rfl
 have s6_11 := oT hO s6_10 rfl
 clear hO hv N10 D10 s0_10 s4_10 s5_10 s6_10 s30_10 s3_10
 refine tail_nil ?_
 refine Rl [] [(31, Pr.ex (w32 (x))), (32, Pr.ex (w32 (UInt32.ofNat ((x : UInt32).toNat / (256 : UInt32).toNat))))] 2 N11 D11 ?_ ?_
 refine Ac ?_ (Ac ?_ (Az _))
 exact Am s5_11 rfl fun _ => rfl
 exact Ap fun aq wq _ hO hR hT => does_quo32 (a := (x : UInt32)) (b := (256 : UInt32)) (hT 31 rfl rfl) rfl (by decide) eR
 intro a12 wd12 N12 D12 hO hR hA hU
 obtain ⟨_, t32, _⟩ := hA
 have E12 := E10.trans hR
 have s0_12 := oT hO s0_11 rfl
 have s3_12 := oT hO s3_11 rfl
 have s4_12 := oT hO s4_11 rfl
 have s5_12 := oT hO s5_11 rfl
 have s6_12 := oT hO s6_11 rfl
 have X1_12 := X1_10.ext' hR
 have X29_12 := X29_10.ext' hR
 have X30_12 := X30_10.ext' hR
 have O29_12 := O29_10.ext' hR
 have O30_12 := O30_10.ext' hR
 have s32_12 : get a12 32 = w32 (UInt32.ofNat ((x : UInt32).toNat / (256 : UInt32).toNat)) := t32
 clear E10 N11 D11 s0_11 s3_11 s4_11 s5_11 s6_11 X1_10 X29_10 X30_10 O29_10 O30_10
 refine tail_put rfl rfl N12 D12 (by decide) (does_assign (V := w32 (UInt32.ofNat ((x : UInt32).toNat / (256 : UInt32).toNat))) s32_12 (fun a13 N13 D13 hv hO => ?_))
 have s5_13 := hv
 have s0_13 := oT hO s0_12 rfl
 have s3_13 := oT hO s3_12 rfl
 have s4_13 := oT hO s4_12 rfl
 have s6_13 := oT hO s6_12 rfl
 clear hO hv N12 D12 s0_12 s3_12 s4_12 s6_12 s32_12 s5_12
 refine tail_nil ?_
 refine Rl [] [(23, Pr.ex (i64 ((0 : Nat) : Int))), (24, Pr.ex (i64 ((1 : Nat) : Int)))] 2 N13 D13 ?_ ?_
 refine Ac ?_ (Ac ?_ (Az _))
 exact Am s6_13 rfl fun _ => rfl
 exact Ap fun aq wq _ hO hR hT => does_add (a := ((0 : Nat) : Int)) (b := ((1 : Nat) : Int)) (r := ((1 : Nat) : Int)) (hT 23 rfl rfl) rfl (by decide) (by decide) (by decide) eR
 intro a14 wd14 N14 D14 hO hR hA hU
 obtain ⟨_, t24, _⟩ := hA
 have E14 := E12.trans hR
 have s0_14 := oT hO s0_13 rfl
 have s3_14 := oT hO s3_13 rfl
 have s4_14 := oT hO s4_13 rfl
 have s5_14 := oT hO s5_13 rfl
 have s6_14 := oT hO s6_13 rfl
 have X1_14 := X1_12.ext' hR
 have X29_14 := X29_12.ext' hR
 have X30_14 := X30_12.ext' hR
 have O29_14 := O29_12.ext' hR
 have O30_14 := O30_12.ext' hR
 have s24_14 : get a14 24 = i64 ((1 : Nat) : Int) := t24
 clear E12 N13 D13 s0_13 s3_13 s4_13 s5_13 s6_13 X1_12 X29_12 X30_12 O29_12 O30_12
 refine tail_put rfl rfl N14 D14 (by decide) (does_assign (V := i64 ((1 : Nat) : Int)) s24_14 (fun a15 N15 D15 hv hO => ?_))
 have s6_15 := hv
 have s0_15 := oT hO s0_14 rfl
 have s3_15 := oT hO s3_14 rfl
 have s4_15 := oT hO s4_14 rfl
 have s5_15 := oT hO s5_14 rfl
 clear hO hv N14 D14 s0_14 s3_14 s4_14 s5_14 s24_14 s6_14
 refine tail_nil ?_
 refine round_step ?_
 refine wp_seq ?_
 refine wp_seq ?_
 refine Rl [] [(21, Pr.ex (i64 ((1 : Nat) : Int))), (22, Pr.ex (Value.bool (true)))] 2 N15 D15 ?_ ?_
 refine Ac ?_ (Ac ?_ (Az _))
 exact Am s6_15 rfl fun _ => rfl
 exact Ap fun aq wq _ hO hR hT => does_lss (a := ((1 : Nat) : Int)) (b := ((4 : Nat) : Int)) (hT 21 rfl rfl) rfl eR
 intro a16 wd16 N16 D16 hO hR hA hU
 obtain ⟨_, t22, _⟩ := hA
 have E16 := E14.trans hR
 have s0_16 := oT hO s0_15 rfl
 have s3_16 := oT hO s3_15 rfl
 have s4_16 := oT hO s4_15 rfl
 have s5_16 := oT hO s5_15 rfl
 have s6_16 := oT hO s6_15 rfl
 have X1_16 := X1_14.ext' hR
 have X29_16 := X29_14.ext' hR
 have X30_16 := X30_14.ext' hR
 have O29_16 := O29_14.ext' hR
 have O30_16 := O30_14.ext' hR
 have s22_16 : get a16 22 = Value.bool (true) := t22
 clear E14 N15 D15 s0_15 s3_15 s4_15 s5_15 s6_15 X1_14 X29_14 X30_14 O29_14 O30_14
 refine tail_nil ?_
 refine wp_ifT s22_16 ?_
 refine wp_skip ?_
 refine wp_seq ?_
 refine wp_block ?_
 refine wp_seq ?_
 refine Rl [] [(25, Pr.ex (x30)), (26, Pr.ex (w32 (UInt32.ofNat ((x : UInt32).toNat / (256 : UInt32).toNat)))), (27, Pr.ex (w32 (UInt32.ofNat ((UInt32.ofNat ((x : UInt32).toNat / (256 : UInt32).toNat) : UInt32).toNat % (256 : UInt32).toNat)))), (28, Pr.ex (w8 (UInt8.ofNat (UInt32.ofNat ((UInt32.ofNat ((x : UInt32).toNat / (256 : UInt32).toNat) : UInt32).toNat % (256 : UInt32).toNat)).toNat))), (29, Pr.own' W8 wd16.heap.size 5 ([UInt8.ofNat (UInt32.ofNat ((UInt32.ofNat ((x : UInt32).toNat / (256 : UInt32).toNat) : UInt32).toNat % (256 : UInt32).toNat)).toNat]))] 5 N16 D16 ?_ ?_
 refine Ac ?_ (Ac ?_ (Ac ?_ (Ac ?_ (Ac ?_ (Az _)))))
 exact Am s3_16 rfl fun _ => rfl
 exact Am s5_16 rfl fun _ => rfl
 exact Ap fun aq wq _ hO hR hT => does_rem32 (a := (UInt32.ofNat ((x : UInt32).toNat / (256 : UInt32).toNat) : UInt32)) (b := (256 : UInt32)) (hT 26 rfl rfl) rfl (by decide) eR
 exact Ap fun aq wq _ hO hR hT => does_conv ⟨_, Tryd.underlying22⟩ Tryd.underlying5 (hT 27 rfl rfl) (wrap_u8 _) eR
 exact Ap fun aq wq _ hO hR hT => does_slice1 (T := W8) (X := UInt8.ofNat (UInt32.ofNat ((UInt32.ofNat ((x : UInt32).toNat / (256 : UInt32).toNat) : UInt32).toNat % (256 : UInt32).toNat)).toNat) (V := w8 (UInt8.ofNat (UInt32.ofNat ((UInt32.ofNat ((x : UInt32).toNat / (256 : UInt32).toNat) : UInt32).toNat % (256 : UInt32).toNat)).toNat)) app_68 rfl (by decide) (hT 28 rfl rfl) rfl (fun v w2 he _ ho => ⟨he, OwnT.base ho hR.size'⟩)
 intro a17 wd17 N17 D17 hO hR hA hU
 obtain ⟨t25, _, _, _, t29, _⟩ := hA
 have E17 := E16.trans hR
 have s0_17 := oT hO s0_16 rfl
 have s3_17 := oT hO s3_16 rfl
 have s4_17 := oT hO s4_16 rfl
 have s5_17 := oT hO s5_16 rfl
 have s6_17 := oT hO s6_16 rfl
 have X1_17 := X1_16.ext' hR
 have X29_17 := X29_16.ext' hR
 have X30_17 := X30_16.ext' hR
 have O29_17 := O29_16.ext' hR
 have O30_17 := O30_16.ext' hR
 have s25_17 : get a17 25 = x30 := t25
 obtain ⟨x29_1, s29_17⟩ : ∃ x, get a17 29 = x := ⟨_, rfl⟩
 replace t29 : OwnT W8 wd16.heap.size 5 ([UInt8.ofNat (UInt32.ofNat ((UInt32.ofNat ((x : UInt32).toNat / (256 : UInt32).toNat) : UInt32).toNat % (256 : UInt32).toNat)).toNat]) x29_1 wd17 := by rw [← s29_17]; exact t29
 have no_x29_1_x29 := Oo t29 O29_16
 have no_x29_1_x30 := Oo t29 O30_16
 have X29_1_17 := t29.sl.wide (Nat.zero_le _) (.inl rfl)
 have O29_1_17 := OwnT.base t29 E16.size'
 clear E16 N16 D16 s0_16 s3_16 s4_16 s5_16 s6_16 s22_16 X1_16 X29_16 X30_16 O29_16 O30_16
 refine tail_put rfl rfl N17 D17 (by decide) (does_append (T := W8) (base := w0.heap.size) (xs := (wbytes (l.take k)) ++ [UInt8.ofNat (UInt32.ofNat ((x : UInt32).toNat % (256 : UInt32).toNat)).toNat]) (ys := [UInt8.ofNat (UInt32.ofNat ((UInt32.ofNat ((x : UInt32).toNat / (256 : UInt32).toNat) : UInt32).toNat % (256 : UInt32).toNat)).toNat]) (v := x30) app_68 s25_17 O30_17 (SlT.at s29_17 X29_1_17) (by simp) (by simp only [List.length_append, bytes_length, List.length_take, List.length_cons, List.length_nil]; omega) (by simp only [List.length_append, bytes_length, List.length_take, List.length_cons, List.length_nil]; omega) E17.size' (fun x30_1 wd18 hX O30_1_18 hk a18 N18 D18 hv hO => ?_))
 have E18 := E17.since hX (fun b hb => Nat.le_trans (Nat.le_refl _) (OwnT.block_lt O30_17 hb).1)
 have X1_18 := SlT.overOwn X1_17 O30_17 hX
 have O29_18 := OwnT.ext O29_17 hX (fun k hk e => no_x30_x29 k e hk)
 have no_x30_1_x29 : ∀ k, x30_1.ownBlock = some k → x29.ownBlock ≠ some k := fun k e e' => (hk k e).elim (fun h => no_x30_x29 k h e') (fun h => Nat.lt_irrefl _ (Nat.lt_of_lt_of_le (OwnT.block_lt O29_17 e').2 h))
 have X29_18 := O29_18.sl.wide (Nat.zero_le _) (.inl rfl)
 have O29_1_18 := OwnT.ext O29_1_17 hX (fun k hk e => no_x29_1_x30 k hk e)
 have no_x30_1_x29_1 : ∀ k, x30_1.ownBlock = some k → x29_1.ownBlock ≠ some k := fun k e e' => (hk k e).elim (fun h => no_x29_1_x30 k e' h) (fun h => Nat.lt_irrefl _ (Nat.lt_of_lt_of_le (OwnT.block_lt O29_1_17 e').2 h))
 have X29_1_18 := O29_1_18.sl.wide (Nat.zero_le _) (.inl rfl)
 have X30_1_18 := O30_1_18.sl.wide (Nat.zero_le _) (.inl rfl)
 have s30_18 := hv
 have s0_18 := oT hO s0_17 rfl
 have s3_18 := oT hO s3_17 rfl
 have s4_18 := oT hO s4_17 rfl
 have s5_18 := oT hO s5_17 rfl
 have s6_18 := oT hO s6_17 rfl
 clear hO hv hX hk N17 D17 E17 X1_17 O29_17 O29_1_17 s0_17 s3_17 s4_17 s5_17 s6_17 s25_17 s29_17
 refine tail_put rfl rfl N18 D18 (by decide) (does_assign (V := x30_1) s30_18 (fun a19 N19 D19 hv hO => ?_))
 have s3_19 := hv
 have s0_19 := oT hO s0_18 rfl
 have s4_19 := oT hO s4_18 rfl
 have s5_19 := oT hO s5_18 rfl
 have s6_19 := oT hO s6_18 rfl
 clear hO hv N18 D18 s0_18 s4_18 s5_18 s6_18 s30_18 s3_18
 refine tail_nil ?_
 refine Rl [] [(31, Pr.ex (w32 (UInt32.ofNat ((x : UInt32).toNat / (256 : UInt32).toNat)))), (32, Pr.ex (w32 (UInt32.ofNat ((UInt32.ofNat ((x : UInt32).toNat / (256 : UInt32).toNat) : UInt32).toNat / (256 : UInt32).toNat))))] 2 N19 D19 ?_ ?_
 refine Ac ?_ (Ac ?_ (Az _))
 exact Am s5_19 rfl fun _ => rfl
 exact Ap fun aq wq _ hO hR hT => does_quo32 (a := (UInt32.ofNat ((x : UInt32).toNat / (256 : UInt32).toNat) : UInt32)) (b := (256 : UInt32)) (hT 31 rfl rfl) rfl (by decide) eR
 intro a20 wd20 N20 D20 hO hR hA hU
 obtain ⟨_, t32, _⟩ := hA
 have E20 := E18.trans hR
 have s0_20 := oT hO s0_19 rfl
 have s3_20 := oT hO s3_19 rfl
 have s4_20 := oT hO s4_19 rfl
 have s5_20 := oT hO s5_19 rfl
 have s6_20 := oT hO s6_19 rfl
 have X1_20 := X1_18.ext' hR
 have X29_20 := X29_18.ext' hR
 have X29_1_20 := X29_1_18.ext' hR
 have X30_1_20 := X30_1_18.ext' hR
 have O29_20 := O29_18.ext' hR
 have O29_1_20 := O29_1_18.ext' hR
 have O30_1_20 := O30_1_18.ext' hR
 have s32_20 : get a20 32 = w32 (UInt32.ofNat ((UInt32.ofNat ((x : UInt32).toNat / (256 : UInt32).toNat) : UInt32).toNat / (256 : UInt32).toNat)) := t32
 clear E18 N19 D19 s0_19 s3_19 s4_19 s5_19 s6_19 X1_18 X29_18 X29_1_18 X30_1_18 O29_18 O29_1_18 O30_1_18
 refine tail_put rfl rfl N20 D20 (by decide) (does_assign (V := w32 (UInt32.ofNat ((UInt32.ofNat ((x : UInt32).toNat / (256 : UInt32).toNat) : UInt32).toNat / (256 : UInt32).toNat))) s32_20 (fun a21 N21 D21 hv hO => ?_))
 have s5_21 := hv
 have s0_21 := oT hO s0_20 rfl
 have s3_21 := oT hO s3_20 rfl
 have s4_21 := oT hO s4_20 rfl
 have s6_21 := oT hO s6_20 rfl
 clear hO hv N20 D20 s0_20 s3_20 s4_20 s6_20 s32_20 s5_20
 refine tail_nil ?_
 refine Rl [] [(23, Pr.ex (i64 ((1 : Nat) : Int))), (24, Pr.ex (i64 ((2 : Nat) : Int)))] 2 N21 D21 ?_ ?_
 refine Ac ?_ (Ac ?_ (Az _))
 exact Am s6_21 rfl fun _ => rfl
 exact Ap fun aq wq _ hO hR hT => does_add (a := ((1 : Nat) : Int)) (b := ((1 : Nat) : Int)) (r := ((2 : Nat) : Int)) (hT 23 rfl rfl) rfl (by decide) (by decide) (by decide) eR
 intro a22 wd22 N22 D22 hO hR hA hU
 obtain ⟨_, t24, _⟩ := hA
 have E22 := E20.trans hR
 have s0_22 := oT hO s0_21 rfl
 have s3_22 := oT hO s3_21 rfl
 have s4_22 := oT hO s4_21 rfl
 have s5_22 := oT hO s5_21 rfl
 have s6_22 := oT hO s6_21 rfl
 have X1_22 := X1_20.ext' hR
 have X29_22 := X29_20.ext' hR
 have X29_1_22 := X29_1_20.ext' hR
 have X30_1_22 := X30_1_20.ext' hR
 have O29_22 := O29_20.ext' hR
 have O29_1_22 := O29_1_20.ext' hR
 have O30_1_22 := O30_1_20.ext' hR
 have s24_22 : get a22 24 = i64 ((2 : Nat) : Int) := t24
 clear E20 N21 D21 s0_21 s3_21 s4_21 s5_21 s6_21 X1_20 X29_20 X29_1_20 X30_1_20 O29_20 O29_1_20 O30_1_20
 refine tail_put rfl rfl N22 D22 (by decide) (does_assign (V := i64 ((2 : Nat) : Int)) s24_22 (fun a23 N23 D23 hv hO => ?_))
 have s6_23 := hv
 have s0_23 := oT hO s0_22 rfl
 have s3_23 := oT hO s3_22 rfl
 have s4_23 := oT hO s4_22 rfl
 have s5_23 := oT hO s5_22 rfl
 clear hO hv N22 D22 s0_22 s3_22 s4_22 s5_22 s24_22 s6_22
 refine tail_nil ?_
 refine round_step ?_
 refine wp_seq ?_
 refine wp_seq ?_
 refine Rl [] [(21, Pr.ex (i64 ((2 : Nat) : Int))), (22, Pr.ex (Value.bool (true)))] 2 N23 D23 ?_ ?_
 refine Ac ?_ (Ac ?_ (Az _))
 exact Am s6_23 rfl fun _ => rfl
 exact Ap fun aq wq _ hO hR hT => does_lss (a := ((2 : Nat) : Int)) (b := ((4 : Nat) : Int)) (hT 21 rfl rfl) rfl eR
 intro a24 wd24 N24 D24 hO hR hA hU
 obtain ⟨_, t22, _⟩ := hA
 have E24 := E22.trans hR
 have s0_24 := oT hO s0_23 rfl
 have s3_24 := oT hO s3_23 rfl
 have s4_24 := oT hO s4_23 rfl
 have s5_24 := oT hO s5_23 rfl
 have s6_24 := oT hO s6_23 rfl
 have X1_24 := X1_22.ext' hR
 have X29_24 := X29_22.ext' hR
 have X29_1_24 := X29_1_22.ext' hR
 have X30_1_24 := X30_1_22.ext' hR
 have O29_24 := O29_22.ext' hR
 have O29_1_24 := O29_1_22.ext' hR
 have O30_1_24 := O30_1_22.ext' hR
 have s22_24 : get a24 22 = Value.bool (true) := t22
 clear E22 N23 D23 s0_23 s3_23 s4_23 s5_23 s6_23 X1_22 X29_22 X29_1_22 X30_1_22 O29_22 O29_1_22 O30_1_22
 refine tail_nil ?_
 refine wp_ifT s22_24 ?_
 refine wp_skip ?_
 refine wp_seq ?_
 refine wp_block ?_
 refine wp_seq ?_
 refine Rl [] [(25, Pr.ex (x30_1)), (26, Pr.ex (w32 (UInt32.ofNat ((UInt32.ofNat ((x : UInt32).toNat / (256 : UInt32).toNat) : UInt32).toNat / (256 : UInt32).toNat)))), (27, Pr.ex (w32 (UInt32.ofNat ((UInt32.ofNat ((UInt32.ofNat ((x : UInt32).toNat / (256 : UInt32).toNat) : UInt32).toNat / (256 : UInt32).toNat) : UInt32).toNat % (256 : UInt32).toNat)))), (28, Pr.ex (w8 (UInt8.ofNat (UInt32.ofNat ((UInt32.ofNat ((UInt32.ofNat ((x : UInt32).toNat / (256 : UInt32).toNat) : UInt32).toNat / (256 : UInt32).toNat) : UInt32).toNat % (256 : UInt32).toNat)).toNat))), (29, Pr.own' W8 wd24.heap.size 5 ([UInt8.ofNat (UInt32.ofNat ((UInt32.ofNat ((UInt32.ofNat ((x : UInt32).toNat / (256 : UInt32).toNat) : UInt32).toNat / (256 : UInt32).toNat) : UInt32).toNat % (256 : UInt32).toNat)).toNat]))] 5 N24 D24 ?_ ?_
 refine Ac ?_ (Ac ?_ (Ac ?_ (Ac ?_ (Ac ?_ (Az _)))))
 exact Am s3_24 rfl fun _ => rfl
 exact Am s5_24 rfl fun _ => rfl
 exact Ap fun aq wq _ hO hR hT => does_rem32 (a := (UInt32.ofNat ((UInt32.ofNat ((x : UInt32).toNat / (256 : UInt32).toNat) : UInt32).toNat / (256 : UInt32).toNat) : UInt32)) (b := (256 : UInt32)) (hT 26 rfl rfl) rfl (by decide) eR
 exact Ap fun aq wq _ hO hR hT => does_conv ⟨_, Tryd.underlying22⟩ Tryd.underlying5 (hT 27 rfl rfl) (wrap_u8 _) eR
 exact Ap fun aq wq _ hO hR hT => does_slice1 (T := W8) (X := UInt8.ofNat (UInt32.ofNat ((UInt32.ofNat ((UInt32.ofNat ((x : UInt32).toNat / (256 : UInt32).toNat) : UInt32).toNat / (256 : UInt32).toNat) : UInt32).toNat % (256 : UInt32).toNat)).toNat) (V := w8 (UInt8.ofNat (UInt32.ofNat ((UInt32.ofNat ((UInt32.ofNat ((x : UInt32).toNat / (256 : UInt32).toNat) : UInt32).toNat / (256 : UInt32).toNat) : UInt32).toNat % (256 : UInt32).toNat)).toNat)) app_68 rfl (by decide) (hT 28 rfl rfl) rfl (fun v w2 he _ ho => ⟨he, OwnT.base ho hR.size'⟩)
 intro a25 wd25 N25 D25 hO hR hA hU
 obtain ⟨t25, _, _, _, t29, _⟩ := hA
 have E25 := E24.trans hR
 have s0_25 := oT hO s0_24 rfl
 have s3_25 := oT hO s3_24 rfl
 have s4_25 := oT hO s4_24 rfl
 have s5_25 := oT hO s5_24 rfl
 have s6_25 := oT hO s6_24 rfl
 have X1_25 := X1_24.ext' hR
 have X29_25 := X29_24.ext' hR
 have X29_1_25 := X29_1_24.ext' hR
 have X30_1_25 := X30_1_24.ext' hR
 have O29_25 := O29_24.ext' hR
 have O29_1_25 := O29_1_24.ext' hR
 have O30_1_25 := O30_1_24.ext' hR
 have s25_25 : get a25 25 = x30_1 := t25
 obtain ⟨x29_2, s29_25⟩ : ∃ x, get a25 29 = x := ⟨_, rfl⟩
 replace t29 : OwnT W8 wd24.heap.size 5 ([UInt8.ofNat (UInt32.ofNat ((UInt32.ofNat ((UInt32.ofNat ((x : UInt32).toNat / (256 : UInt32).toNat) : UInt32).toNat / (256 : UInt32).toNat) : UInt32).toNat % (256 : UInt32).toNat)).toNat]) x29_2 wd25 := by rw [← s29_25]; exact t29
 have no_x29_2_x29 := Oo t29 O29_24
 have no_x29_2_x29_1 := Oo t29 O29_1_24
 have no_x29_2_x30_1 := Oo t29 O30_1_24
 have X29_2_25 := t29.sl.wide (Nat.zero_le _) (.inl rfl)
 have O29_2_25 := OwnT.base t29 E24.size'
 clear E24 N24 D24 s0_24 s3_24 s4_24 s5_24 s6_24 s22_24 X1_24 X29_24 X29_1_24 X30_1_24 O29_24 O29_1_24 O30_1_24
 refine tail_put rfl rfl N25 D25 (by decide) (does_append (T := W8) (base := w0.heap.size) (xs := ((wbytes (l.take k)) ++ [UInt8.ofNat (UInt32.ofNat ((x : UInt32).toNat % (256 : UInt32).toNat)).toNat]) ++ [UInt8.ofNat (UInt32.ofNat ((UInt32.ofNat ((x : UInt32).toNat / (256 : UInt32).toNat) : UInt32).toNat % (256 : UInt32).toNat)).toNat]) (ys := [UInt8.ofNat (UInt32.ofNat ((UInt32.ofNat ((UInt32.ofNat ((x : UInt32).toNat / (256 : UInt32).toNat) : UInt32).toNat / (256 : UInt32).toNat) : UInt32).toNat % (256 : UInt32).toNat)).toNat]) (v := x30_1) app_68 s25_25 O30_1_25 (SlT.at s29_25 X29_2_25) (by simp) (by simp only [List.length_append, bytes_length, List.length_take, List.length_cons, List.length_nil]; omega) (by simp only [List.length_append, bytes_length, List.length_take, List.length_cons, List.length_nil]; omega) E25.size' (fun x30_2 wd26 hX O30_2_26 hk a26 N26 D26 hv hO => ?_))
 have E26 := E25.since hX (fun b hb => Nat.le_trans (Nat.le_refl _) (OwnT.block_lt O30_1_25 hb).1)
 have X1_26 := SlT.overOwn X1_25 O30_1_25 hX
 have O29_26 := OwnT.ext O29_25 hX (fun k hk e => no_x30_1_x29 k e hk)
 have no_x30_2_x29 : ∀ k, x30_2.ownBlock = some k → x29.ownBlock ≠ some k := fun k e e' => (hk k e).elim (fun h => no_x30_1_x29 k h e') (fun h => Nat.lt_irrefl _ (Nat.lt_of_lt_of_le (OwnT.block_lt O29_25 e').2 h))
 have X29_26 := O29_26.sl.wide (Nat.zero_le _) (.inl rfl)
 have O29_1_26 := OwnT.ext O29_1_25 hX (fun k hk e => no_x30_1_x29_1 k e hk)
 have no_x30_2_x29_1 : ∀ k, x30_2.ownBlock = some k → x29_1.ownBlock ≠ some k := fun k e e' => (hk k e).elim (fun h => no_x30_1_x29_1 k h e') (fun h => Nat.lt_irrefl _ (Nat.lt_of_lt_of_le (OwnT.block_lt O29_1_25 e').2 h))
 have X29_1_26 := O29_1_26.sl.wide (Nat.zero_le _) (.inl rfl)
 have O29_2_26 := OwnT.ext O29_2_25 hX (fun k hk e => no_x29_2_x30_1 k hk e)
 have no_x30_2_x29_2 : ∀ k, x30_2.ownBlock = some k → x29_2.ownBlock ≠ some k := fun k e e' => (hk k e).elim (fun h => no_x29_2_x30_1 k e' h) (fun h => Nat.lt_irrefl _ (Nat.lt_of_lt_of_le (OwnT.block_lt O29_2_25 e').2 h))
 have X29_2_26 := O29_2_26.sl.wide (Nat.zero_le _) (.inl rfl)
 have X30_2_26 := O30_2_26.sl.wide (Nat.zero_le _) (.inl rfl)
 have s30_26 := hv
 have s0_26 := oT hO s0_25 rfl
 have s3_26 := oT hO s3_25 rfl
 have s4_26 := oT hO s4_25 rfl
 have s5_26 := oT hO s5_25 rfl
 have s6_26 := oT hO s6_25 rfl
 clear hO hv hX hk N25 D25 E25 X1_25 O29_25 O29_1_25 O29_2_25 s0_25 s3_25 s4_25 s5_25 s6_25 s25_25 s29_25
 refine tail_put rfl rfl N26 D26 (by decide) (does_assign (V := x30_2) s30_26 (fun a27 N27 D27 hv hO => ?_))
 have s3_27 := hv
 have s0_27 := oT hO s0_26 rfl
 have s4_27 := oT hO s4_26 rfl
 have s5_27 := oT hO s5_26 rfl
 have s6_27 := oT hO s6_26 rfl
 clear hO hv N26 D26 s0_26 s4_26 s5_26 s6_26 s30_26 s3_26
 refine tail_nil ?_
 refine Rl [] [(31, Pr.ex (w32 (UInt32.ofNat ((UInt32.ofNat ((x : UInt32).toNat / (256 : UInt32).toNat) : UInt32).toNat / (256 : UInt32).toNat)))), (32, Pr.ex (w32 (UInt32.ofNat ((UInt32.ofNat ((UInt32.ofNat ((x : UInt32).toNat / (256 : UInt32).toNat) : UInt32).toNat / (256 : UInt32).toNat) : UInt32).toNat / (256 : UInt32).toNat))))] 2 N27 D27 ?_ ?_
 refine Ac ?_ (Ac ?_ (Az _))
 exact Am s5_27 rfl fun _ => rfl
 exact Ap fun aq wq _ hO hR hT => does_quo32 (a := (UInt32.ofNat ((UInt32.ofNat ((x : UInt32).toNat / (256 : UInt32).toNat) : UInt32).toNat / (256 : UInt32).toNat) : UInt32)) (b := (256 : UInt32)) (hT 31 rfl rfl) rfl (by decide) eR
 intro a28 wd28 N28 D28 hO hR hA hU
 obtain ⟨_, t32, _⟩ := hA
 have E28 := E26.trans hR
 have s0_28 := oT hO s0_27 rfl
 have s3_28 := oT hO s3_27 rfl
 have s4_28 := oT hO s4_27 rfl
 have s5_28 := oT hO s5_27 rfl
 have s6_28 := oT hO s6_27 rfl
 have X1_28 := X1_26.ext' hR
 have X29_28 := X29_26.ext' hR
 have X29_1_28 := X29_1_26.ext' hR
 have X29_2_28 := X29_2_26.ext' hR
 have X30_2_28 := X30_2_26.ext' hR
 have O29_28 := O29_26.ext' hR
 have O29_1_28 := O29_1_26.ext' hR
 have O29_2_28 := O29_2_26.ext' hR
 have O30_2_28 := O30_2_26.ext' hR
 have s32_28 : get a28 32 = w32 (UInt32.ofNat ((UInt32.ofNat ((UInt32.ofNat ((x : UInt32).toNat / (256 : UInt32).toNat) : UInt32).toNat / (256 : UInt32).toNat) : UInt32).toNat / (256 : UInt32).toNat)) := t32
 clear E26 N27 D27 s0_27 s3_27 s4_27 s5_27 s6_27 X1_26 X29_26 X29_1_26 X29_2_26 X30_2_26 O29_26 O29_1_26 O29_2_26 O30_2_26
 refine tail_put rfl rfl N28 D28 (by decide) (does_assign (V := w32 (UInt32.ofNat ((UInt32.ofNat ((UInt32.ofNat ((x : UInt32).toNat / (256 : UInt32).toNat) : UInt32).toNat / (256 : UInt32).toNat) : UInt32).toNat / (256 : UInt32).toNat))) s32_28 (fun a29 N29 D29 hv hO => ?_))
 have s5_29 := hv
 have s0_29 := oT hO s0_28 rfl
 have s3_29 := oT hO s3_28 rfl
 have s4_29 := oT hO s4_28 rfl
 have s6_29 := oT hO s6_28 rfl
 clear hO hv N28 D28 s0_28 s3_28 s4_28 s6_28 s32_28 s5_28
 refine tail_nil ?_
 refine Rl [] [(23, Pr.ex (i64 ((2 : Nat) : Int))), (24, Pr.ex (i64 ((3 : Nat) : Int)))] 2 N29 D29 ?_ ?_
 refine Ac ?_ (Ac ?_ (Az _))
 exact Am s6_29 rfl fun _ => rfl
 exact Ap fun aq wq _ hO hR hT => does_add (a := ((2 : Nat) : Int)) (b := ((1 : Nat) : Int)) (r := ((3 : Nat) : Int)) (hT 23 rfl rfl) rfl (by decide) (by decide) (by decide) eR
 intro a30 wd30 N30 D30 hO hR hA hU
 obtain ⟨_, t24, _⟩ := hA
 have E30 := E28.trans hR
 have s0_30 := oT hO s0_29 rfl
 have s3_30 := oT hO s3_29 rfl
 have s4_30 := oT hO s4_29 rfl
 have s5_30 := oT hO s5_29 rfl
 have s6_30 := oT hO s6_29 rfl
 have X1_30 := X1_28.ext' hR
 have X29_30 := X29_28.ext' hR
 have X29_1_30 := X29_1_28.ext' hR
 have X29_2_30 := X29_2_28.ext' hR
 have X30_2_30 := X30_2_28.ext' hR
 have O29_30 := O29_28.ext' hR
 have O29_1_30 := O29_1_28.ext' hR
 have O29_2_30 := O29_2_28.ext' hR
 have O30_2_30 := O30_2_28.ext' hR
 have s24_30 : get a30 24 = i64 ((3 : Nat) : Int) := t24
 clear E28 N29 D29 s0_29 s3_29 s4_29 s5_29 s6_29 X1_28 X29_28 X29_1_28 X29_2_28 X30_2_28 O29_28 O29_1_28 O29_2_28 O30_2_28
 refine tail_put rfl rfl N30 D30 (by decide) (does_assign (V := i64 ((3 : Nat) : Int)) s24_30 (fun a31 N31 D31 hv hO => ?_))
 have s6_31 := hv
 have s0_31 := oT hO s0_30 rfl
 have s3_31 := oT hO s3_30 rfl
 have s4_31 := oT hO s4_30 rfl
 have s5_31 := oT hO s5_30 rfl
 clear hO hv N30 D30 s0_30 s3_30 s4_30 s5_30 s24_30 s6_30
 refine tail_nil ?_
 refine round_step ?_
 refine wp_seq ?_
 refine wp_seq ?_
 refine Rl [] [(21, Pr.ex (i64 ((3 : Nat) : Int))), (22, Pr.ex (Value.bool (true)))] 2 N31 D31 ?_ ?_
 refine Ac ?_ (Ac ?_ (Az _))
 exact Am s6_31 rfl fun _ => rfl
 exact Ap fun aq wq _ hO hR hT => does_lss (a := ((3 : Nat) : Int)) (b := ((4 : Nat) : Int)) (hT 21 rfl rfl) rfl eR
 intro a32 wd32 N32 D32 hO hR hA hU
 obtain ⟨_, t22, _⟩ := hA
 have E32 := E30.trans hR
 have s0_32 := oT hO s0_31 rfl
 have s3_32 := oT hO s3_31 rfl
 have s4_32 := oT hO s4_31 rfl
 have s5_32 := oT hO s5_31 rfl
 have s6_32 := oT hO s6_31 rfl
 have X1_32 := X1_30.ext' hR
 have X29_32 := X29_30.ext' hR
 have X29_1_32 := X29_1_30.ext' hR
 have X29_2_32 := X29_2_30.ext' hR
 have X30_2_32 := X30_2_30.ext' hR
 have O29_32 := O29_30.ext' hR
 have O29_1_32 := O29_1_30.ext' hR
 have O29_2_32 := O29_2_30.ext' hR
 have O30_2_32 := O30_2_30.ext' hR
 have s22_32 : get a32 22 = Value.bool (true) := t22
 clear E30 N31 D31 s0_31 s3_31 s4_31 s5_31 s6_31 X1_30 X29_30 X29_1_30 X29_2_30 X30_2_30 O29_30 O29_1_30 O29_2_30 O30_2_30
 refine tail_nil ?_
 refine wp_ifT s22_32 ?_
 refine wp_skip ?_
 refine wp_seq ?_
 refine wp_block ?_
 refine wp_seq ?_
 refine Rl [] [(25, Pr.ex (x30_2)), (26, Pr.ex (w32 (UInt32.ofNat ((UInt32.ofNat ((UInt32.ofNat ((x : UInt32).toNat / (256 : UInt32).toNat) : UInt32).toNat / (256 : UInt32).toNat) : UInt32).toNat / (256 : UInt32).toNat)))), (27, Pr.ex (w32 (UInt32.ofNat ((UInt32.ofNat ((UInt32.ofNat ((UInt32.ofNat ((x : UInt32).toNat / (256 : UInt32).toNat) : UInt32).toNat / (256 : UInt32).toNat) : UInt32).toNat / (256 : UInt32).toNat) : UInt32).toNat % (256 : UInt32).toNat)))), (28, Pr.ex (w8 (UInt8.ofNat (UInt32.ofNat ((UInt32.ofNat ((UInt32.ofNat ((UInt32.ofNat ((x : UInt32).toNat / (256 : UInt32).toNat) : UInt32).toNat / (256 : UInt32).toNat) : UInt32).toNat / (256 : UInt32).toNat) : UInt32).toNat % (256 : UInt32).toNat)).toNat))), (29, Pr.own' W8 wd32.heap.size 5 ([UInt8.ofNat (UInt32.ofNat ((UInt32.ofNat ((UInt32.ofNat ((UInt32.ofNat ((x : UInt32).toNat / (256 : UInt32).toNat) : UInt32).toNat / (256 : UInt32).toNat) : UInt32).toNat / (256 : UInt32).toNat) : UInt32).toNat % (256 : UInt32).toNat)).toNat]))] 5 N32 D32 ?_ ?_
 refine Ac ?_ (Ac ?_ (Ac ?_ (Ac ?_ (Ac ?_ (Az _)))))
 exact Am s3_32 rfl fun _ => rfl
 exact Am s5_32 rfl fun _ => rfl
 exact Ap fun aq wq _ hO hR hT => does_rem32 (a := (UInt32.ofNat ((UInt32.ofNat ((UInt32.ofNat ((x : UInt32).toNat / (256 : UInt32).toNat) : UInt32).toNat / (256 : UInt32).toNat) : UInt32).toNat / (256 : UInt32).toNat) : UInt32)) (b := (256 : UInt32)) (hT 26 rfl rfl) rfl (by decide) eR
 exact Ap fun aq wq _ hO hR hT => does_conv ⟨_, Tryd.underlying22⟩ Tryd.underlying5 (hT 27 rfl rfl) (wrap_u8 _) eR
 exact Ap fun aq wq _ hO hR hT => does_slice1 (T := W8) (X := UInt8.ofNat (UInt32.ofNat ((UInt32.ofNat ((UInt32.ofNat ((UInt32.ofNat ((x : UInt32).toNat / (256 : UInt32).toNat) : UInt32).toNat / (256 : UInt32).toNat) : UInt32).toNat / (256 : UInt32).toNat) : UInt32).toNat % (256 : UInt32).toNat)).toNat) (V := w8 (UInt8.ofNat (UInt32.ofNat ((UInt32.ofNat ((UInt32.ofNat ((UInt32.ofNat ((x : UInt32).toNat / (256 : UInt32).toNat) : UInt32).toNat / (256 : UInt32).toNat) : UInt32).toNat / (256 : UInt32).toNat) : UInt32).toNat % (256 : UInt32).toNat)).toNat)) app_68 rfl (by decide) (hT 28 rfl rfl) rfl (fun v w2 he _ ho => ⟨he, OwnT.base ho hR.size'⟩)
 intro a33 wd33 N33 D33 hO hR hA hU
 obtain ⟨t25, _, _, _, t29, _⟩ := hA
 have E33 := E32.trans hR
 have s0_33 := oT hO s0_32 rfl
 have s3_33 := oT hO s3_32 rfl
 have s4_33 := oT hO s4_32 rfl
 have s5_33 := oT hO s5_32 rfl
 have s6_33 := oT hO s6_32 rfl
 have X1_33 := X1_32.ext' hR
 have X29_33 := X29_32.ext' hR
 have X29_1_33 := X29_1_32.ext' hR
 have X29_2_33 := X29_2_32.ext' hR
 have X30_2_33 := X30_2_32.ext' hR
 have O29_33 := O29_32.ext' hR
 have O29_1_33 := O29_1_32.ext' hR
 have O29_2_33 := O29_2_32.ext' hR
 have O30_2_33 := O30_2_32.ext' hR
 have s25_33 : get a33 25 = x30_2 := t25
 obtain ⟨x29_3, s29_33⟩ : ∃ x, get a33 29 = x := ⟨_, rfl⟩
 replace t29 : OwnT W8 wd32.heap.size 5 ([UInt8.ofNat (UInt32.ofNat ((UInt32.ofNat ((UInt32.ofNat ((UInt32.ofNat ((x : UInt32).toNat / (256 : UInt32).toNat) : UInt32).toNat / (256 : UInt32).toNat) : UInt32).toNat / (256 : UInt32).toNat) : UInt32).toNat % (256 : UInt32).toNat)).toNat]) x29_3 wd33 := by rw [← s29_33]; exact t29
 have no_x29_3_x29 := Oo t29 O29_32
 have no_x29_3_x29_1 := Oo t29 O29_1_32
 have no_x29_3_x29_2 := Oo t29 O29_2_32
 have no_x29_3_x30_2 := Oo t29 O30_2_32
 have X29_3_33 := t29.sl.wide (Nat.zero_le _) (.inl rfl)
 have O29_3_33 := OwnT.base t29 E32.size'
 clear E32 N32 D32 s0_32 s3_32 s4_32 s5_32 s6_32 s22_32 X1_32 X29_32 X29_1_32 X29_2_32 X30_2_32 O29_32 O29_1_32 O29_2_32 O30_2_32
 refine tail_put rfl rfl N33 D33 (by decide) (does_append (T := W8) (base := w0.heap.size) (xs := (((wbytes (l.take k)) ++ [UInt8.ofNat (UInt32.ofNat ((x : UInt32).toNat % (256 : UInt32).toNat)).toNat]) ++ [UInt8.ofNat (UInt32.ofNat ((UInt32.ofNat ((x : UInt32).toNat / (256 : UInt32).toNat) : UInt32).toNat % (256 : UInt32).toNat)).toNat]) ++ [UInt8.ofNat (UInt32.ofNat ((UInt32.ofNat ((UInt32.ofNat ((x : UInt32).toNat / (256 : UInt32).toNat) : UInt32).toNat / (256 : UInt32).toNat) : UInt32).toNat % (256 : UInt32).toNat)).toNat]) (ys := [UInt8.ofNat (UInt32.ofNat ((UInt32.ofNat ((UInt32.ofNat ((UInt32.ofNat ((x : UInt32).toNat / (256 : UInt32).toNat) : UInt32).toNat / (256 : UInt32).toNat) : UInt32).toNat / (256 : UInt32).toNat) : UInt32).toNat % (256 : UInt32).toNat)).toNat]) (v := x30_2) app_68 s25_33 O30_2_33 (SlT.at s29_33 X29_3_33) (by simp) (by simp only [List.length_append, bytes_length, List.length_take, List.length_cons, List.length_nil]; omega) (by simp only [List.length_append, bytes_length, List.length_take, List.length_cons, List.length_nil]; omega) E33.size' (fun x30_3 wd34 hX O30_3_34 hk a34 N34 D34 hv hO => ?_))
 have E34 := E33.since hX (fun b hb => Nat.le_trans (Nat.le_refl _) (OwnT.block_lt O30_2_33 hb).1)
 have X1_34 := SlT.overOwn X1_33 O30_2_33 hX
 have O29_34 := OwnT.ext O29_33 hX (fun k hk e => no_x30_2_x29 k e hk)
 have no_x30_3_x29 : ∀ k, x30_3.ownBlock = some k → x29.ownBlock ≠ some k := fun k e e' => (hk k e).elim (fun h => no_x30_2_x29 k h e') (fun h => Nat.lt_irrefl _ (Nat.lt_of_lt_of_le (OwnT.block_lt O29_33 e').2 h))
 have X29_34 := O29_34.sl.wide (Nat.zero_le _) (.inl rfl)
 have O29_1_34 := OwnT.ext O29_1_33 hX (fun k hk e => no_x30_2_x29_1 k e hk)
 have no_x30_3_x29_1 : ∀ k, x30_3.ownBlock = some k → x29_1.ownBlock ≠ some k := fun k e e' => (hk k e).elim (fun h => no_x30_2_x29_1 k h e') (fun h => Nat.lt_irrefl _ (Nat.lt_of_lt_of_le (OwnT.block_lt O29_1_33 e').2 h))
 have X29_1_34 := O29_1_34.sl.wide (Nat.zero_le _) (.inl rfl)
 have O29_2_34 := OwnT.ext O29_2_33 hX (fun k hk e => no_x30_2_x29_2 k e hk)
 have no_x30_3_x29_2 : ∀ k, x30_3.ownBlock = some k → x29_2.ownBlock ≠ some k := fun k e e' => (hk k e).elim (fun h => no_x30_2_x29_2 k h e') (fun h => Nat.lt_irrefl _ (Nat.lt_of_lt_of_le (OwnT.block_lt O29_2_33 e').2 h))
 have X29_2_34 := O29_2_34.sl.wide (Nat.zero_le _) (.inl rfl)
 have O29_3_34 := OwnT.ext O29_3_33 hX (fun k hk e => no_x29_3_x30_2 k hk e)
 have no_x30_3_x29_3 : ∀ k, x30_3.ownBlock = some k → x29_3.ownBlock ≠ some k := fun k e e' => (hk k e).elim (fun h => no_x29_3_x30_2 k e' h) (fun h => Nat.lt_irrefl _ (Nat.lt_of_lt_of_le (OwnT.block_lt O29_3_33 e').2 h))
 have X29_3_34 := O29_3_34.sl.wide (Nat.zero_le _) (.inl rfl)
 have X30_3_34 := O30_3_34.sl.wide (Nat.zero_le _) (.inl rfl)
 have s30_34 := hv
 have s0_34 := oT hO s0_33 rfl
 have s3_34 := oT hO s3_33 rfl
 have s4_34 := oT hO s4_33 rfl
 have s5_34 := oT hO s5_33 rfl
 have s6_34 := oT hO s6_33 rfl
 clear hO hv hX hk N33 D33 E33 X1_33 O29_33 O29_1_33 O29_2_33 O29_3_33 s0_33 s3_33 s4_33 s5_33 s6_33 s25_33 s29_33
 refine tail_put rfl rfl N34 D34 (by decide) (does_assign (V := x30_3) s30_34 (fun a35 N35 D35 hv hO => ?_))
 have s3_35 := hv
 have s0_35 := oT hO s0_34 rfl
 have s4_35 := oT hO s4_34 rfl
 have s5_35 := oT hO s5_34 rfl
 have s6_35 := oT hO s6_34 rfl
 clear hO hv N34 D34 s0_34 s4_34 s5_34 s6_34 s30_34 s3_34
 refine tail_nil ?_
 refine Rl [] [(31, Pr.ex (w32 (UInt32.ofNat ((UInt32.ofNat ((UInt32.ofNat ((x : UInt32).toNat / (256 : UInt32).toNat) : UInt32).toNat / (256 : UInt32).toNat) : UInt32).toNat / (256 : UInt32).toNat)))), (32, Pr.ex (w32 (UInt32.ofNat ((UInt32.ofNat ((UInt32.ofNat ((UInt32.ofNat ((x : UInt32).toNat / (256 : UInt32).toNat) : UInt32).toNat / (256 : UInt32).toNat) : UInt32).toNat / (256 : UInt32).toNat) : UInt32).toNat / (256 : UInt32).toNat))))] 2 N35 D35 ?_ ?_
 refine Ac ?_ (Ac ?_ (Az _))
 exact Am s5_35 rfl fun _ => rfl
 exact Ap fun aq wq _ hO hR hT => does_quo32 (a := (UInt32.ofNat ((UInt32.ofNat ((UInt32.ofNat ((x : UInt32).toNat / (256 : UInt32).toNat) : UInt32).toNat / (256 : UInt32).toNat) : UInt32).toNat / (256 : UInt32).toNat) : UInt32)) (b := (256 : UInt32)) (hT 31 rfl rfl) rfl (by decide) eR
 intro a36 wd36 N36 D36 hO hR hA hU
 obtain ⟨_, t32, _⟩ := hA
 have E36 := E34.trans hR
 have s0_36 := oT hO s0_35 rfl
 have s3_36 := oT hO s3_35 rfl
 have s4_36 := oT hO s4_35 rfl
 have s5_36 := oT hO s5_35 rfl
 have s6_36 := oT hO s6_35 rfl
 have X1_36 := X1_34.ext' hR
 have X29_36 := X29_34.ext' hR
 have X29_1_36 := X29_1_34.ext' hR
 have X29_2_36 := X29_2_34.ext' hR
 have X29_3_36 := X29_3_34.ext' hR
 have X30_3_36 := X30_3_34.ext' hR
 have O29_36 := O29_34.ext' hR
 have O29_1_36 := O29_1_34.ext' hR
 have O29_2_36 := O29_2_34.ext' hR
 have O29_3_36 := O29_3_34.ext' hR
 have O30_3_36 := O30_3_34.ext' hR
 have s32_36 : get a36 32 = w32 (UInt32.ofNat ((UInt32.ofNat ((UInt32.ofNat ((UInt32.ofNat ((x : UInt32).toNat / (256 : UInt32).toNat) : UInt32).toNat / (256 : UInt32).toNat) : UInt32).toNat / (256 : UInt32).toNat) : UInt32).toNat / (256 : UInt32).toNat)) := t32
 clear E34 N35 D35 s0_35 s3_35 s4_35 s5_35 s6_35 X1_34 X29_34 X29_1_34 X29_2_34 X29_3_34 X30_3_34 O29_34 O29_1_34 O29_2_34 O29_3_34 O30_3_34
 refine tail_put rfl rfl N36 D36 (by decide) (does_assign (V := w32 (UInt32.ofNat ((UInt32.ofNat ((UInt32.ofNat ((UInt32.ofNat ((x : UInt32).toNat / (256 : UInt32).toNat) : UInt32).toNat / (256 : UInt32).toNat) : UInt32).toNat / (256 : UInt32).toNat) : UInt32).toNat / (256 : UInt32).toNat))) s32_36 (fun a37 N37 D37 hv hO => ?_))
 have s5_37 := hv
 have s0_37 := oT hO s0_36 rfl
 have s3_37 := oT hO s3_36 rfl
 have s4_37 := oT hO s4_36 rfl
 have s6_37 := oT hO s6_36 rfl
 clear hO hv N36 D36 s0_36 s3_36 s4_36 s6_36 s32_36 s5_36
 refine tail_nil ?_
 refine Rl [] [(23, Pr.ex (i64 ((3 : Nat) : Int))), (24, Pr.ex (i64 ((4 : Nat) : Int)))] 2 N37 D37 ?_ ?_
 refine Ac ?_ (Ac ?_ (Az _))
 exact Am s6_37 rfl fun _ => rfl
 exact Ap fun aq wq _ hO hR hT => does_add (a := ((3 : Nat) : Int)) (b := ((1 : Nat) : Int)) (r := ((4 : Nat) : Int)) (hT 23 rfl rfl) rfl (by decide) (by decide) (by decide) eR
 intro a38 wd38 N38 D38 hO hR hA hU
 obtain ⟨_, t24, _⟩ := hA
 have E38 := E36.trans hR
 have s0_38 := oT hO s0_37 rfl
 have s3_38 := oT hO s3_37 rfl
 have s4_38 := oT hO s4_37 rfl
 have s5_38 := oT hO s5_37 rfl
 have s6_38 := oT hO s6_37 rfl
 have X1_38 := X1_36.ext' hR
 have X29_38 := X29_36.ext' hR
 have X29_1_38 := X29_1_36.ext' hR
 have X29_2_38 := X29_2_36.ext' hR
 have X29_3_38 := X29_3_36.ext' hR
 have X30_3_38 := X30_3_36.ext' hR
 have O29_38 := O29_36.ext' hR
 have O29_1_38 := O29_1_36.ext' hR
 have O29_2_38 := O29_2_36.ext' hR
 have O29_3_38 := O29_3_36.ext' hR
 have O30_3_38 := O30_3_36.ext' hR
 have s24_38 : get a38 24 = i64 ((4 : Nat) : Int) := t24
 clear E36 N37 D37 s0_37 s3_37 s4_37 s5_37 s6_37 X1_36 X29_36 X29_1_36 X29_2_36 X29_3_36 X30_3_36 O29_36 O29_1_36 O29_2_36 O29_3_36 O30_3_36
 refine tail_put rfl rfl N38 D38 (by decide) (does_assign (V := i64 ((4 : Nat) : Int)) s24_38 (fun a39 N39 D39 hv hO => ?_))
 have s6_39 := hv
 have s0_39 := oT hO s0_38 rfl
 have s3_39 := oT hO s3_38 rfl
 have s4_39 := oT hO s4_38 rfl
 have s5_39 := oT hO s5_38 rfl
 clear hO hv N38 D38 s0_38 s3_38 s4_38 s5_38 s24_38 s6_38
 refine tail_nil ?_
 refine round_step ?_
 refine wp_seq ?_
 refine wp_seq ?_
 refine Rl [] [(21, Pr.ex (i64 ((4 : Nat) : Int))), (22, Pr.ex (Value.bool (false)))] 2 N39 D39 ?_ ?_
 refine Ac ?_ (Ac ?_ (Az _))
 exact Am s6_39 rfl fun _ => rfl
 exact Ap fun aq wq _ hO hR hT => does_lss (a := ((4 : Nat) : Int)) (b := ((4 : Nat) : Int)) (hT 21 rfl rfl) rfl eR
 intro a40 wd40 N40 D40 hO hR hA hU
 obtain ⟨_, t22, _⟩ := hA
 have E40 := E38.trans hR
 have s0_40 := oT hO s0_39 rfl
 have s3_40 := oT hO s3_39 rfl
 have s4_40 := oT hO s4_39 rfl
 have s5_40 := oT hO s5_39 rfl
 have s6_40 := oT hO s6_39 rfl
 have X1_40 := X1_38.ext' hR
 have X29_40 := X29_38.ext' hR
 have X29_1_40 := X29_1_38.ext' hR
 have X29_2_40 := X29_2_38.ext' hR
 have X29_3_40 := X29_3_38.ext' hR
 have X30_3_40 := X30_3_38.ext' hR
 have O29_40 := O29_38.ext' hR
 have O29_1_40 := O29_1_38.ext' hR
 have O29_2_40 := O29_2_38.ext' hR
 have O29_3_40 := O29_3_38.ext' hR
 have O30_3_40 := O30_3_38.ext' hR
 have s22_40 : get a40 22 = Value.bool (false) := t22
 clear E38 N39 D39 s0_39 s3_39 s4_39 s5_39 s6_39 X1_38 X29_38 X29_1_38 X29_2_38 X29_3_38 X30_3_38 O29_38 O29_1_38 O29_2_38 O29_3_38 O30_3_38
 refine tail_nil ?_
 refine wp_ifF s22_40 ?_
 refine wp_exit ?_
 refine Rl [] [(15, Pr.ex (i64 (k : Int))), (16, Pr.ex (i64 ((k + 1 : Nat) : Int)))] 2 N40 D40 ?_ ?_
 refine Ac ?_ (Ac ?_ (Az _))
 exact Am s4_40 rfl fun _ => rfl
 exact Ap fun aq wq _ hO hR hT => does_add (a := (k : Int)) (b := ((1 : Nat) : Int)) (r := ((k + 1 : Nat) : Int)) (hT 15 rfl rfl) rfl (by omega) (by omega) (by omega) eR
 intro a41 wd41 N41 D41 hO hR hA hU
 obtain ⟨_, t16, _⟩ := hA
 have E41 := E40.trans hR
 have s0_41 := oT hO s0_40 rfl
 have s3_41 := oT hO s3_40 rfl
 have s4_41 := oT hO s4_40 rfl
 have X1_41 := X1_40.ext' hR
 have X29_41 := X29_40.ext' hR
 have X29_1_41 := X29_1_40.ext' hR
 have X29_2_41 := X29_2_40.ext' hR
 have X29_3_41 := X29_3_40.ext' hR
 have X30_3_41 := X30_3_40.ext' hR
 have O29_41 := O29_40.ext' hR
 have O29_1_41 := O29_1_40.ext' hR
 have O29_2_41 := O29_2_40.ext' hR
 have O29_3_41 := O29_3_40.ext' hR
 have O30_3_41 := O30_3_40.ext' hR
 have s16_41 : get a41 16 = i64 ((k + 1 : Nat) : Int) := t16
 clear E40 N40 D40 s0_40 s3_40 s4_40 s5_40 s6_40 s22_40 X1_40 X29_40 X29_1_40 X29_2_40 X29_3_40 X30_3_40 O29_40 O29_1_40 O29_2_40 O29_3_40 O30_3_40
 refine tail_put rfl rfl N41 D41 (by decide) (does_assign (V := i64 ((k + 1 : Nat) : Int)) s16_41 (fun a42 N42 D42 hv hO => ?_))
 have s4_42 := hv
 have s0_42 := oT hO s0_41 rfl
 have s3_42 := oT hO s3_41 rfl
 clear hO hv N41 D41 s0_41 s3_41 s16_41 s4_41
 refine tail_nil ?_
 exact ⟨_, by omega, k + 1, x30_3, rfl, N42, D42, s0_42, s3_42, s4_42, E41, X1_41, (by have h := O30_3_41; rw [bytes_stepR hx _ _ _ rfl rfl rfl] at h; exact h), by omega⟩
 have hc0 := of_decide_eq_false hc0
 have hk2 : l.take k = l := List.take_of_length_le (by omega)
 refine wp_exit ?_
 refine wp_seq ?_
 refine Rl [] [(33, Pr.ex (xo)), (34, Pr.ex (str (wbytes (l.take k)))), (2, Pr.ex (str (wbytes (l.take k))))] 3 N5 D5 ?_ ?_
 refine Ac ?_ (Ac ?_ (Ac ?_ (Az _)))
 exact Am s3_5 rfl fun _ => rfl
 exact Ap fun aq wq _ hO hR hT => does_string (l := wbytes (l.take k)) Tryd.underlying9 Tryd.underlying68 Tryd.underlying5 (SlT.at (hT 33 rfl rfl) (hsxo_5.ext' hR)) eR
 exact Ap fun aq wq _ hO hR hT => does_assign (V := str (wbytes (l.take k))) (hT 34 rfl rfl) eR
 intro a43 wd43 N43 D43 hO hR hA hU
 obtain ⟨_, _, t2, _⟩ := hA
 have E43 := E5.trans hR
 have X1_43 := X1_5.ext' hR
 have hsxo_43 := hsxo_5.ext' hR
 have hoxo_43 := hoxo_5.ext' hR
 have s2_43 : get a43 2 = str (wbytes (l.take k)) := t2
 clear E5 N5 D5 s0_5 s3_5 s4_5 s14_5 X1_5 hsxo_5 hoxo_5
 refine tail_nil ?_
 refine wp_ret ?_
 refine res_one (V := str (wbytes (l.take k))) rfl D43 s2_43 ?_
 exact ⟨by show str _ = str _; rw [hk2], E43⟩

theorem words_ (s : List UInt8) (w0 : World) (h4 : s.length % 4 = 0) (hn : s.length ≤ 4194304) :
    Gives Tryd.prog 36 #[str (s)] w0 (Pr.t2 (Pr.own' W32 w0.heap.size 22 (words s)) (Pr.ex (i64 ((0 : Nat) : Int)))) := by
 refine enter (N := 36) Tryd.func36 rfl rfl ?_
 intro a0 N0 D0 hA
 have s0_0 : get a0 0 = str (s) := hA 0 _ rfl
 clear hA
 have E0 : Ext w0 w0 := Ext.refl w0
 refine wp_seq ?_
 refine Rl [] [(2, Pr.ex (Value.slice none 0 0)), (3, Pr.ex (i64 ((0 : Nat) : Int)))] 2 N0 D0 ?_ ?_
 refine Ac ?_ (Ac ?_ (Az _))
 exact Ap fun aq wq _ hO hR hT => does_assign (V := Value.slice none 0 0) rfl eR
 exact Ap fun aq wq _ hO hR hT => does_assign (V := i64 ((0 : Nat) : Int)) rfl eR
 intro a1 wd1 N1 D1 hO hR hA hU
 obtain ⟨_, _, _⟩ := hA
 have E1 := E0.trans hR
 have s0_1 := oT hO s0_0 rfl
 clear E0 N0 D0 s0_0
 refine tail_nil ?_
 refine wp_seq ?_
 refine wp_seq ?_
 refine Rl [] [(5, Pr.ex (str (s))), (6, Pr.ex (i64 (s.length : Int))), (7, Pr.ex (i64 ((s.length % 4 : Nat) : Int))), (8, Pr.ex (Value.bool (!decide (((s.length % 4 : Nat) : Int) = ((0 : Nat) : Int)))))] 4 N1 D1 ?_ ?_
 refine Ac ?_ (Ac ?_ (Ac ?_ (Ac ?_ (Az _))))
 exact Am s0_1 rfl fun _ => rfl
 exact Ap fun aq wq _ hO hR hT => does_lenStr (l := s) Tryd.underlying9 (hT 5 rfl rfl) eR
 exact Ap fun aq wq _ hO hR hT => does_rem (k := .i64) (a := (s.length : Int)) (b := ((4 : Nat) : Int)) (r := ((s.length % 4 : Nat) : Int)) (hT 6 rfl rfl) rfl (by omega) (by omega) (by omega) eR
 exact Ap fun aq wq _ hO hR hT => does_neq (a := ((s.length % 4 : Nat) : Int)) (b := ((0 : Nat) : Int)) (hT 7 rfl rfl) rfl eR
 intro a2 wd2 N2 D2 hO hR hA hU
 obtain ⟨_, _, _, t8, _⟩ := hA
 have E2 := E1.trans hR
 have s0_2 := oT hO s0_1 rfl
 have s8_2 : get a2 8 = Value.bool (!decide (((s.length % 4 : Nat) : Int) = ((0 : Nat) : Int))) := t8
 clear E1 N1 D1 s0_1
 refine tail_nil ?_
 refine wp_if (B := !decide (((s.length % 4 : Nat) : Int) = ((0 : Nat) : Int))) s8_2 (fun hc0 => ?_) (fun hc0 => ?_)
 have hc0 := of_decide_eq_false (bn hc0)
 omega
 have hc0 := of_decide_eq_true (bn' hc0)
 refine wp_skip ?_
 refine wp_seq ?_
 refine Rl [] [(4, Pr.ex (Value.slice none 0 0))] 1 N2 D2 ?_ ?_
 refine Ac ?_ (Az _)
 exact Ap fun aq wq _ hO hR hT => does_assign (V := Value.slice none 0 0) rfl eR
 intro a3 wd3 N3 D3 hO hR hA hU
 obtain ⟨t4, _⟩ := hA
 have E3 := E2.trans hR
 have s0_3 := oT hO s0_2 rfl
 have s4_3 : get a3 4 = Value.slice none 0 0 := t4
 clear E2 N2 D2 s0_2 s8_2
 refine tail_nil ?_
 refine wp_seq ?_
 refine wp_block ?_
 refine loop_g (fun mz az wz => ∃ m : List UInt8, ∃ acc : List UInt32, ∃ xo : Value, mz = m.length ∧ (az.tmps.size = 36) ∧ (az.defers = []) ∧ (get az 0 = str (m)) ∧ (get az 4 = xo) ∧ (Ext w0 wz) ∧ (OwnT W32 w0.heap.size 22 (acc) xo wz) ∧ (acc ++ words m = words s) ∧ (m.length % 4 = 0) ∧ (acc.length * 4 + m.length ≤ 4194304)) ?_ ?_
 exact ⟨_, s, [], (Value.slice none 0 0), rfl, N3, D3, s0_3, s4_3, E3, (OwnT.nil W32 w0.heap.size 22 _), rfl, h4, by simpa using hn⟩
 rintro mz a4 wd4 ⟨m, acc, xo, rfl, N4, D4, s0_4, s4_4, E4, hoxo_4, hm, hm0, hal⟩
 have hsxo_4 := hoxo_4.sl.wide (Nat.zero_le _) (.inl rfl)
 refine wp_seq ?_
 refine wp_seq ?_
 refine Rl [] [(9, Pr.ex (str (m))), (10, Pr.ex (i64 (m.length : Int))), (11, Pr.ex (Value.bool (decide (((0 : Nat) : Int) < (m.length : Int)))))] 3 N4 D4 ?_ ?_
 refine Ac ?_ (Ac ?_ (Ac ?_ (Az _)))
 exact Am s0_4 rfl fun _ => rfl
 exact Ap fun aq wq _ hO hR hT => does_lenStr (l := m) Tryd.underlying9 (hT 9 rfl rfl) eR
 exact Ap fun aq wq _ hO hR hT => does_gtr (a := (m.length : Int)) (b := ((0 : Nat) : Int)) (hT 10 rfl rfl) rfl eR
 intro a5 wd5 N5 D5 hO hR hA hU
 obtain ⟨_, _, t11, _⟩ := hA
 have E5 := E4.trans hR
 have s0_5 := oT hO s0_4 rfl
 have s4_5 := oT hO s4_4 rfl
 have hsxo_5 := hsxo_4.ext' hR
 have hoxo_5 := hoxo_4.ext' hR
 have s11_5 : get a5 11 = Value.bool (decide (((0 : Nat) : Int) < (m.length : Int))) := t11
 clear E4 N4 D4 s0_4 s4_4 hsxo_4 hoxo_4
 refine tail_nil ?_
 refine wp_if (B := decide (((0 : Nat) : Int) < (m.length : Int))) s11_5 (fun hc1 => ?_) (fun hc1 => ?_)
 have hc1 := of_decide_eq_true hc1
 obtain ⟨a, b, c, d, m', hm4⟩ := four_of (l := m) (by omega)
 refine wp_skip ?_
 refine wp_seq ?_
 refine wp_block ?_
 refine Ra [] [(14, Pr.ex (xo)), (15, Pr.ex (str (m))), (16, Pr.ex (w8 (a))), (17, Pr.ex (w32 (UInt32.ofNat (a).toNat))), (18, Pr.ex (str (m))), (19, Pr.ex (w8 (b))), (20, Pr.ex (w32 (UInt32.ofNat (b).toNat))), (21, Pr.ex (w32 (UInt32.ofNat ((UInt32.ofNat (b).toNat).toNat * 2 ^ 8)))), (22, Pr.ex (w32 ((UInt32.ofNat (a).toNat) ||| (UInt32.ofNat ((UInt32.ofNat (b).toNat).toNat * 2 ^ 8))))), (23, Pr.ex (str (m))), (24, Pr.ex (w8 (c))), (25, Pr.ex (w32 (UInt32.ofNat (c).toNat))), (26, Pr.ex (w32 (UInt32.ofNat ((UInt32.ofNat (c).toNat).toNat * 2 ^ 16)))), (27, Pr.ex (w32 (((UInt32.ofNat (a).toNat) ||| (UInt32.ofNat ((UInt32.ofNat (b).toNat).toNat * 2 ^ 8))) ||| (UInt32.ofNat ((UInt32.ofNat (c).toNat).toNat * 2 ^ 16))))), (28, Pr.ex (str (m))), (29, Pr.ex (w8 (d))), (30, Pr.ex (w32 (UInt32.ofNat (d).toNat))), (31, Pr.ex (w32 (UInt32.ofNat ((UInt32.ofNat (d).toNat).toNat * 2 ^ 24)))), (32, Pr.ex (w32 ((((UInt32.ofNat (a).toNat) ||| (UInt32.ofNat ((UInt32.ofNat (b).toNat).toNat * 2 ^ 8))) ||| (UInt32.ofNat ((UInt32.ofNat (c).toNat).toNat * 2 ^ 16))) ||| (UInt32.ofNat ((UInt32.ofNat (d).toNat).toNat * 2 ^ 24))))), (33, Pr.own' W32 wd5.heap.size 22 ([(((UInt32.ofNat (a).toNat) ||| (UInt32.ofNat ((UInt32.ofNat (b).toNat).toNat * 2 ^ 8))) ||| (UInt32.ofNat ((UInt32.ofNat (c).toNat).toNat * 2 ^ 16))) ||| (UInt32.ofNat ((UInt32.ofNat (d).toNat).toNat * 2 ^ 24))]))] 20 mixed N5 D5 ?_ ?_
 refine Ac ?_ (Ac ?_ (Ac ?_ (Ac ?_ (Ac ?_ (Ac ?_ (Ac ?_ (Ac ?_ (Ac ?_ (Ac ?_ (Ac ?_ (Ac ?_ (Ac ?_ (Ac ?_ (Ac ?_ (Ac ?_ (Ac ?_ (Ac ?_ (Ac ?_ (Ac ?_ (Az _))))))))))))))))))))
 exact Am s4_5 rfl fun _ => rfl
 exact Am s0_5 rfl fun _ => rfl
 exact Ad fun aq wq _ hO hR hT => does_indexStr (l := m) (i := ((0 : Nat) : Int)) (c := a) Tryd.underlying9 (hT 15 rfl rfl) rfl (by omega) (by rw [hm4]; rfl) eR
 exact Ad fun aq wq _ hO hR hT => does_conv ⟨_, Tryd.underlying5⟩ Tryd.underlying22 (hT 16 rfl rfl) (wrap_u32 _) eR
 exact Am s0_5 rfl fun _ => rfl
 exact Ad fun aq wq _ hO hR hT => does_indexStr (l := m) (i := ((1 : Nat) : Int)) (c := b) Tryd.underlying9 (hT 18 rfl rfl) rfl (by omega) (by rw [hm4]; rfl) eR
 exact Ad fun aq wq _ hO hR hT => does_conv ⟨_, Tryd.underlying5⟩ Tryd.underlying22 (hT 19 rfl rfl) (wrap_u32 _) eR
 exact Ad fun aq wq _ hO hR hT => does_shl32 (a := UInt32.ofNat (b).toNat) (b := 8) (hT 20 rfl rfl) rfl (by decide) eR
 exact Ad fun aq wq _ hO hR hT => does_or32 (a := UInt32.ofNat (a).toNat) (b := UInt32.ofNat ((UInt32.ofNat (b).toNat).toNat * 2 ^ 8)) (hT 17 rfl rfl) (hT 21 rfl rfl) eR
 exact Am s0_5 rfl fun _ => rfl
 exact Ad fun aq wq _ hO hR hT => does_indexStr (l := m) (i := ((2 : Nat) : Int)) (c := c) Tryd.underlying9 (hT 23 rfl rfl) rfl (by omega) (by rw [hm4]; rfl) eR
 exact Ad fun aq wq _ hO hR hT => does_conv ⟨_, Tryd.underlying5⟩ Tryd.underlying22 (hT 24 rfl rfl) (wrap_u32 _) eR
 exact Ad fun aq wq _ hO hR hT => does_shl32 (a := UInt32.ofNat (c).toNat) (b := 16) (hT 25 rfl rfl) rfl (by decide) eR
 exact Ad fun aq wq _ hO hR hT => does_or32 (a := (UInt32.ofNat (a).toNat) ||| (UInt32.ofNat ((UInt32.ofNat (b).toNat).toNat * 2 ^ 8))) (b := UInt32.ofNat ((UInt32.ofNat (c).toNat).toNat * 2 ^ 16)) (hT 22 rfl rfl) (hT 26 rfl rfl) eR
 exact Am s0_5 rfl fun _ => rfl
 exact Ad fun aq wq _ hO hR hT => does_indexStr (l := m) (i := ((3 : Nat) : Int)) (c := d) Tryd.underlying9 (hT 28 rfl rfl) rfl (by omega) (by rw [hm4]; rfl) eR
 exact Ad fun aq wq _ hO hR hT => does_conv ⟨_, Tryd.underlying5⟩ Tryd.underlying22 (hT 29 rfl rfl) (wrap_u32 _) eR
 exact Ad fun aq wq _ hO hR hT => does_shl32 (a := UInt32.ofNat (d).toNat) (b := 24) (hT 30 rfl rfl) rfl (by decide) eR
 exact Ad fun aq wq _ hO hR hT => does_or32 (a := ((UInt32.ofNat (a).toNat) ||| (UInt32.ofNat ((UInt32.ofNat (b).toNat).toNat * 2 ^ 8))) ||| (UInt32.ofNat ((UInt32.ofNat (c).toNat).toNat * 2 ^ 16))) (b := UInt32.ofNat ((UInt32.ofNat (d).toNat).toNat * 2 ^ 24)) (hT 27 rfl rfl) (hT 31 rfl rfl) eR
 exact Ad fun aq wq _ hO hR hT => does_slice1 (T := W32) (X := (((UInt32.ofNat (a).toNat) ||| (UInt32.ofNat ((UInt32.ofNat (b).toNat).toNat * 2 ^ 8))) ||| (UInt32.ofNat ((UInt32.ofNat (c).toNat).toNat * 2 ^ 16))) ||| (UInt32.ofNat ((UInt32.ofNat (d).toNat).toNat * 2 ^ 24))) (V := w32 ((((UInt32.ofNat (a).toNat) ||| (UInt32.ofNat ((UInt32.ofNat (b).toNat).toNat * 2 ^ 8))) ||| (UInt32.ofNat ((UInt32.ofNat (c).toNat).toNat * 2 ^ 16))) ||| (UInt32.ofNat ((UInt32.ofNat (d).toNat).toNat * 2 ^ 24)))) app_58 rfl (by decide) (hT 32 rfl rfl) rfl (fun v w2 he _ ho => ⟨he, OwnT.base ho hR.size'⟩)
 intro a6 wd6 N6 D6 hO hR hA hU
 obtain ⟨t14, _, _, _, _, _, _, _, _, _, _, _, _, _, _, _, _, _, _, t33, _⟩ := hA
 have E6 := E5.trans hR
 have s0_6 := oT hO s0_5 rfl
 have s4_6 := oT hO s4_5 rfl
 have hsxo_6 := hsxo_5.ext' hR
 have hoxo_6 := hoxo_5.ext' hR
 have s14_6 : get a6 14 = xo := t14
 obtain ⟨x33, s33_6⟩ : ∃ x, get a6 33 = x := ⟨_, rfl⟩
 replace t33 : OwnT W32 wd5.heap.size 22 ([(((UInt32.ofNat (a).toNat) ||| (UInt32.ofNat ((UInt32.ofNat (b).toNat).toNat * 2 ^ 8))) ||| (UInt32.ofNat ((UInt32.ofNat (c).toNat).toNat * 2 ^ 16))) ||| (UInt32.ofNat ((UInt32.ofNat (d).toNat).toNat * 2 ^ 24))]) x33 wd6 := by rw [← s33_6]; exact t33
 have no_x33_xo := Oo t33 hoxo_5
 have X33_6 := t33.sl.wide (Nat.zero_le _) (.inl rfl)
 have O33_6 := OwnT.base t33 E5.size'
 clear E5 N5 D5 s0_5 s4_5 s11_5 hsxo_5 hoxo_5
 refine tail_put rfl rfl N6 D6 (by decide) (does_append (T := W32) (base := w0.heap.size) (xs := acc) (ys := [(((UInt32.ofNat (a).toNat) ||| (UInt32.ofNat ((UInt32.ofNat (b).toNat).toNat * 2 ^ 8))) ||| (UInt32.ofNat ((UInt32.ofNat (c).toNat).toNat * 2 ^ 16))) ||| (UInt32.ofNat ((UInt32.ofNat (d).toNat).toNat * 2 ^ 24))]) (v := xo) app_58 s14_6 hoxo_6 (SlT.at s33_6 X33_6) (by simp) (by simp only [List.length_append, List.length_cons, List.length_nil]; omega) (by simp only [List.length_append, List.length_cons, List.length_nil]; omega) E6.size' (fun x34 wd7 hX O34_7 hk a7 N7 D7 hv hO => ?_))
 have E7 := E6.since hX (fun b hb => Nat.le_trans (Nat.le_refl _) (OwnT.block_lt hoxo_6 hb).1)
 have O33_7 := OwnT.ext O33_6 hX (fun k hk e => no_x33_xo k hk e)
 have no_x34_x33 : ∀ k, x34.ownBlock = some k → x33.ownBlock ≠ some k := fun k e e' => (hk k e).elim (fun h => no_x33_xo k e' h) (fun h => Nat.lt_irrefl _ (Nat.lt_of_lt_of_le (OwnT.block_lt O33_6 e').2 h))
 have X33_7 := O33_7.sl.wide (Nat.zero_le _) (.inl rfl)
 have X34_7 := O34_7.sl.wide (Nat.zero_le _) (.inl rfl)
 rw [word_or] at O34_7 X34_7
 have s34_7 := hv
 have s0_7 := oT hO s0_6 rfl
 have s4_7 := oT hO s4_6 rfl
 clear hO hv hX hk N6 D6 E6 O33_6 s0_6 s4_6 s14_6 s33_6
 refine tail_put rfl rfl N7 D7 (by decide) (does_assign (V := x34) s34_7 (fun a8 N8 D8 hv hO => ?_))
 have s4_8 := hv
 have s0_8 := oT hO s0_7 rfl
 clear hO hv N7 D7 s0_7 s34_7 s4_7
 refine tail_nil ?_
 refine Rl [] [(12, Pr.ex (str (m))), (13, Pr.ex (str (m.drop 4)))] 2 N8 D8 ?_ ?_
 refine Ac ?_ (Ac ?_ (Az _))
 exact Am s0_8 rfl fun _ => rfl
 exact Ap fun aq wq _ hO hR hT => does_strLo (l := m) (k := ((4 : Nat) : Int)) Tryd.underlying9 (hT 12 rfl rfl) rfl (by omega) (by omega) eR
 intro a9 wd9 N9 D9 hO hR hA hU
 obtain ⟨_, t13, _⟩ := hA
 have E9 := E7.trans hR
 have s0_9 := oT hO s0_8 rfl
 have s4_9 := oT hO s4_8 rfl
 have X33_9 := X33_7.ext' hR
 have X34_9 := X34_7.ext' hR
 have O33_9 := O33_7.ext' hR
 have O34_9 := O34_7.ext' hR
 have s13_9 : get a9 13 = str (m.drop 4) := t13
 clear E7 N8 D8 s0_8 s4_8 X33_7 X34_7 O33_7 O34_7
 refine tail_put rfl rfl N9 D9 (by decide) (does_assign (V := str (m.drop 4)) s13_9 (fun a10 N10 D10 hv hO => ?_))
 have s0_10 := hv
 have s4_10 := oT hO s4_9 rfl
 clear hO hv N9 D9 s4_9 s13_9 s0_9
 refine tail_nil ?_
 exact ⟨_, by rw [hm4]; simp only [List.length_cons]; omega, m', (acc ++ [word a b c d]), x34, rfl, N10, D10, (by rw [s0_10, hm4]; rfl), s4_10, E9, O34_9, by rw [← hm, words_step hm4, List.append_assoc]; rfl, by rw [hm4] at hm0; simp only [List.length_cons] at hm0; omega, by rw [hm4] at hal; simp only [List.length_cons, List.length_append, List.length_nil] at hal ⊢; omega⟩
 have hc1 := of_decide_eq_false hc1
 refine wp_exit ?_
 refine wp_seq ?_
 refine Rl [] [(35, Pr.ex (xo)), (2, Pr.ex (xo)), (3, Pr.ex (i64 ((0 : Nat) : Int)))] 3 N5 D5 ?_ ?_
 refine Ac ?_ (Ac ?_ (Ac ?_ (Az _)))
 exact Am s4_5 rfl fun _ => rfl
 exact Ap fun aq wq _ hO hR hT => does_assign (V := xo) (hT 35 rfl rfl) eR
 exact Ap fun aq wq _ hO hR hT => does_assign (V := i64 ((0 : Nat) : Int)) rfl eR
 intro a11 wd11 N11 D11 hO hR hA hU
 obtain ⟨_, t2, t3, _⟩ := hA
 have E11 := E5.trans hR
 have hsxo_11 := hsxo_5.ext' hR
 have hoxo_11 := hoxo_5.ext' hR
 have s2_11 : get a11 2 = xo := t2
 have s3_11 : get a11 3 = i64 ((0 : Nat) : Int) := t3
 clear E5 N5 D5 s0_5 s4_5 s11_5 hsxo_5 hoxo_5
 refine tail_nil ?_
 refine wp_ret ?_
 refine res_two (V1 := xo) (V2 := i64 ((0 : Nat) : Int)) rfl D11 s2_11 s3_11 ?_
 have hz := words_nil (m := m) (by omega)
 rw [hz, List.append_nil] at hm
 have ho := hoxo_11
 rw [hm] at ho
 exact ⟨⟨_, _, rfl, ho, rfl⟩, E11⟩

end Go.Proofs.YtmmghpbncejfiaaDoor
