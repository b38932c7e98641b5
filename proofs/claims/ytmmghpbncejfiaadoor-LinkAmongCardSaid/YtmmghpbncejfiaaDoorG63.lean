/- The walks of functions of the program: printed. -/
import Derived.Test.YtmmghpbncejfiaaDoorK
import Derived.Test.YtmmghpbncejfiaaDoorG3
import Derived.Test.YtmmghpbncejfiaaDoorF0
set_option maxRecDepth 100000
namespace Go.Proofs.YtmmghpbncejfiaaDoor
open Go Go.RowKit Sk Sd
theorem sign_ (n : Nat) (w0 : World) (hn : n < 16) :
    Gives Tryd.prog 95 #[i64 (n : Int)] w0 (Pr.ex (w8 (hexc n))) := by
 refine enter (N := 12) Tryd.func95 rfl rfl ?_
 intro a0 N0 D0 hA
 have s0_0 : get a0 0 = i64 (n : Int) := hA 0 _ rfl
 clear hA
 have E0 : Ext w0 w0 := Ext.refl w0
 refine wp_seq ?_
 refine Rl [] [(2, Pr.ex (w8 (0)))] 1 N0 D0 ?_ ?_
 refine Ac ?_ (Az _)
 exact Ap fun aq wq _ hO hR hT => does_assign (V := w8 (0)) rfl eR
 intro a1 wd1 N1 D1 hO hR hA hU
 obtain ⟨_, _⟩ := hA
 have E1 := E0.trans hR
 have s0_1 := oT hO s0_0 rfl
 clear E0 N0 D0 s0_0
 refine tail_nil ?_
 refine wp_seq ?_
 refine wp_seq ?_
 refine Rl [] [(3, Pr.ex (i64 (n : Int))), (4, Pr.ex (Value.bool (decide ((n : Int) < ((10 : Nat) : Int)))))] 2 N1 D1 ?_ ?_
 refine Ac ?_ (Ac ?_ (Az _))
 exact Am s0_1 rfl fun _ => rfl
 exact Ap fun aq wq _ hO hR hT => does_lss (a := (n : Int)) (b := ((10 : Nat) : Int)) (hT 3 rfl rfl) rfl eR
 intro a2 wd2 N2 D2 hO hR hA hU
 obtain ⟨_, t4, _⟩ := hA
 have E2 := E1.trans hR
 have s0_2 := oT hO s0_1 rfl
 have s4_2 : get a2 4 = Value.bool (decide ((n : Int) < ((10 : Nat) : Int))) := t4
 clear E1 N1 D1 s0_1
 refine tail_nil ?_
 refine wp_if (B := decide ((n : Int) < ((10 : Nat) : Int))) s4_2 (fun hc0 => ?_) (fun hc0 => ?_)
 have hc0 := of_decide_eq_true hc0
 refine wp_seq ?_
 refine Rl [] [(5, Pr.ex (i64 (n : Int))), (6, Pr.ex (i64 ((48 + n : Nat) : Int))), (7, Pr.ex (w8 (UInt8.ofNat (48 + n)))), (2, Pr.ex (w8 (UInt8.ofNat (48 + n))))] 4 N2 D2 ?_ ?_
 refine Ac ?_ (Ac ?_ (Ac ?_ (Ac ?_ (Az _))))
 exact Am s0_2 rfl fun _ => rfl
 exact Ap fun aq wq _ hO hR hT => does_add (a := ((48 : Nat) : Int)) (b := (n : Int)) (r := ((48 + n : Nat) : Int)) rfl (hT 5 rfl rfl) (by omega) (by omega) (by omega) eR
 exact Ap fun aq wq _ hO hR hT => does_conv ⟨_, Tryd.underlying3⟩ Tryd.underlying5 (hT 6 rfl rfl) (wrap_u8 _) eR
 exact Ap fun aq wq _ hO hR hT => does_assign (V := w8 (UInt8.ofNat (48 + n))) (hT 7 rfl rfl) eR
 intro a3 wd3 N3 D3 hO hR hA hU
 obtain ⟨_, _, _, t2, _⟩ := hA
 have E3 := E2.trans hR
 have s2_3 : get a3 2 = w8 (UInt8.ofNat (48 + n)) := t2
 clear E2 N2 D2 s0_2 s4_2
 refine tail_nil ?_
 refine wp_ret ?_
 refine res_one (V := w8 (UInt8.ofNat (48 + n))) rfl D3 s2_3 ?_
 exact ⟨congrArg w8 (by rw [hexc_lo (by omega)]), E3⟩
 have hc0 := of_decide_eq_false hc0
 refine wp_skip ?_
 refine wp_seq ?_
 refine Rl [] [(8, Pr.ex (i64 (n : Int))), (9, Pr.ex (i64 ((97 + n : Nat) : Int))), (10, Pr.ex (i64 (((97 + n) - 10 : Nat) : Int))), (11, Pr.ex (w8 (UInt8.ofNat ((97 + n) - 10)))), (2, Pr.ex (w8 (UInt8.ofNat ((97 + n) - 10))))] 5 N2 D2 ?_ ?_
 refine Ac ?_ (Ac ?_ (Ac ?_ (Ac ?_ (Ac ?_ (Az _)))))
 exact Am s0_2 rfl fun _ => rfl
 exact Ap fun aq wq _ hO hR hT => does_add (a := ((97 : Nat) : Int)) (b := (n : Int)) (r := ((97 + n : Nat) : Int)) rfl (hT 8 rfl rfl) (by omega) (by omega) (by omega) eR
 exact Ap fun aq wq _ hO hR hT => does_sub (a := ((97 + n : Nat) : Int)) (b := ((10 : Nat) : Int)) (r := (((97 + n) - 10 : Nat) : Int)) (hT 9 rfl rfl) rfl (by omega) (by omega) (by omega) eR
 exact Ap fun aq wq _ hO hR hT => does_conv ⟨_, Tryd.underlying3⟩ Tryd.underlying5 (hT 10 rfl rfl) (wrap_u8 _) eR
 exact Ap fun aq wq _ hO hR hT => does_assign (V := w8 (UInt8.ofNat ((97 + n) - 10))) (hT 11 rfl rfl) eR
 intro a4 wd4 N4 D4 hO hR hA hU
 obtain ⟨_, _, _, _, t2, _⟩ := hA
 have E4 := E2.trans hR
 have s2_4 : get a4 2 = w8 (UInt8.ofNat ((97 + n) - 10)) := t2
 clear E2 N2 D2 s0_2 s4_2
 refine tail_nil ?_
 refine wp_ret ?_
 refine res_one (V := w8 (UInt8.ofNat ((97 + n) - 10))) rfl D4 s2_4 ?_
 exact ⟨congrArg w8 (by rw [hexc_hi (by omega)]), E4⟩

theorem text2 (l : List UInt8) (w0 : World) (hn : l.length ≤ 100000) :
    Gives Tryd.prog 94 #[str (l)] w0 (Pr.ex (str (hexs l))) := by
 refine enter (N := 28) Tryd.func94 rfl rfl ?_
 intro a0 N0 D0 hA
 have s0_0 : get a0 0 = str (l) := hA 0 _ rfl
 clear hA
 have E0 : Ext w0 w0 := Ext.refl w0
 refine wp_seq ?_
 refine Rl [] [(2, Pr.ex (str (([] : List UInt8))))] 1 N0 D0 ?_ ?_
 refine Ac ?_ (Az _)
 exact Ap fun aq wq _ hO hR hT => does_assign (V := str (([] : List UInt8))) rfl eR
 intro a1 wd1 N1 D1 hO hR hA hU
 obtain ⟨_, _⟩ := hA
 have E1 := E0.trans hR
 have s0_1 := oT hO s0_0 rfl
 clear E0 N0 D0 s0_0
 refine tail_nil ?_
 refine wp_seq ?_
 refine Rl [] [(3, Pr.ex (Value.slice none 0 0))] 1 N1 D1 ?_ ?_
 refine Ac ?_ (Az _)
 exact Ap fun aq wq _ hO hR hT => does_assign (V := Value.slice none 0 0) rfl eR
 intro a2 wd2 N2 D2 hO hR hA hU
 obtain ⟨t3, _⟩ := hA
 have E2 := E1.trans hR
 have s0_2 := oT hO s0_1 rfl
 have s3_2 : get a2 3 = Value.slice none 0 0 := t3
 clear E1 N1 D1 s0_1
 refine tail_nil ?_
 refine wp_seq ?_
 refine wp_seq ?_
 refine Rl [] [(4, Pr.ex (i64 ((0 : Nat) : Int)))] 1 N2 D2 ?_ ?_
 refine Ac ?_ (Az _)
 exact Ap fun aq wq _ hO hR hT => does_assign (V := i64 ((0 : Nat) : Int)) rfl eR
 intro a3 wd3 N3 D3 hO hR hA hU
 obtain ⟨t4, _⟩ := hA
 have E3 := E2.trans hR
 have s0_3 := oT hO s0_2 rfl
 have s3_3 := oT hO s3_2 rfl
 have s4_3 : get a3 4 = i64 ((0 : Nat) : Int) := t4
 clear E2 N2 D2 s0_2 s3_2
 refine tail_nil ?_
 refine wp_block ?_
 refine loop_g (fun mz az wz => ∃ k : Nat, ∃ xo : Value, mz = l.length - k ∧ (az.tmps.size = 28) ∧ (az.defers = []) ∧ (get az 0 = str (l)) ∧ (get az 3 = xo) ∧ (get az 4 = i64 (k : Int)) ∧ (Ext w0 wz) ∧ (OwnT W8 w0.heap.size 5 (hexs (l.take k)) xo wz) ∧ (k ≤ l.length)) ?_ ?_
 exact ⟨_, 0, (Value.slice none 0 0), rfl, N3, D3, s0_3, s3_3, s4_3, E3, (OwnT.nil W8 w0.heap.size 5 _), Nat.zero_le _⟩
 rintro mz a4 wd4 ⟨k, xo, rfl, N4, D4, s0_4, s3_4, s4_4, E4, hoxo_4, hk⟩
 have hsxo_4 := hoxo_4.sl.wide (Nat.zero_le _) (.inl rfl)
 refine wp_seq ?_
 refine wp_seq ?_
 refine Rl [] [(5, Pr.ex (i64 (k : Int))), (6, Pr.ex (str (l))), (7, Pr.ex (i64 (l.length : Int))), (8, Pr.ex (Value.bool (decide ((k : Int) < (l.length : Int)))))] 4 N4 D4 ?_ ?_
 refine Ac ?_ (Ac ?_ (Ac ?_ (Ac ?_ (Az _))))
 exact Am s4_4 rfl fun _ => rfl
 exact Am s0_4 rfl fun _ => rfl
 exact Ap fun aq wq _ hO hR hT => does_lenStr (l := l) Tryd.underlying9 (hT 6 rfl rfl) eR
 exact Ap fun aq wq _ hO hR hT => does_lss (a := (k : Int)) (b := (l.length : Int)) (hT 5 rfl rfl) (hT 7 rfl rfl) eR
 intro a5 wd5 N5 D5 hO hR hA hU
 obtain ⟨_, _, _, t8, _⟩ := hA
 have E5 := E4.trans hR
 have s0_5 := oT hO s0_4 rfl
 have s3_5 := oT hO s3_4 rfl
 have s4_5 := oT hO s4_4 rfl
 have hsxo_5 := hsxo_4.ext' hR
 have hoxo_5 := hoxo_4.ext' hR
 have s8_5 : get a5 8 = Value.bool (decide ((k : Int) < (l.length : Int))) := t8
 clear E4 N4 D4 s0_4 s3_4 s4_4 hsxo_4 hoxo_4
 refine tail_nil ?_
 refine wp_if (B := decide ((k : Int) < (l.length : Int))) s8_5 (fun hc0 => ?_) (fun hc0 => ?_)
 have hc0 := of_decide_eq_true hc0
 obtain ⟨c, hc⟩ := get_of_lt (l := l) (k := k) (by omega)
 have hc8 := c.toNat_lt
 refine wp_skip ?_
 refine wp_seq ?_
 refine wp_block ?_
 refine Ra [] [(11, Pr.ex (xo)), (12, Pr.ex (str (l))), (13, Pr.ex (i64 (k : Int))), (14, Pr.ex (w8 (c))), (15, Pr.ex (i64 (((c).toNat : Nat) : Int))), (16, Pr.ex (i64 ((((c).toNat) / 16 : Nat) : Int))), (17, Pr.ex (w8 (hexc (((c).toNat) / 16)))), (18, Pr.ex (str (l))), (19, Pr.ex (i64 (k : Int))), (20, Pr.ex (w8 (c))), (21, Pr.ex (i64 (((c).toNat : Nat) : Int))), (22, Pr.ex (i64 ((((c).toNat) % 16 : Nat) : Int))), (23, Pr.ex (w8 (hexc (((c).toNat) % 16)))), (24, Pr.own' W8 wd5.heap.size 5 ([hexc (((c).toNat) / 16), hexc (((c).toNat) % 16)]))] 14 mixed N5 D5 ?_ ?_
 refine Ac ?_ (Ac ?_ (Ac ?_ (Ac ?_ (Ac ?_ (Ac ?_ (Ac ?_ (Ac ?_ (Ac ?_ (Ac ?_ (Ac ?_ (Ac ?_ (Ac ?_ (Ac ?_ (Az _))))))))))))))
 exact Am s3_5 rfl fun _ => rfl
 exact Am s0_5 rfl fun _ => rfl
 exact Am s4_5 rfl fun _ => rfl
 exact Ad fun aq wq _ hO hR hT => does_indexStr (l := l) (i := (k : Int)) (c := c) Tryd.underlying9 (hT 12 rfl rfl) (hT 13 rfl rfl) (by omega) hc eR
 exact Ad fun aq wq _ hO hR hT => does_conv ⟨_, Tryd.underlying5⟩ Tryd.underlying3 (hT 14 rfl rfl) (conv_w_i8 _) eR
 exact Ad fun aq wq _ hO hR hT => does_quo (a := (((c).toNat : Nat) : Int)) (b := ((16 : Nat) : Int)) (r := ((((c).toNat) / 16 : Nat) : Int)) (hT 15 rfl rfl) rfl (by omega) (by omega) (by omega) (by omega) eR
 exact Ad fun aq wq _ hO hR hT => does_ret (vs := #[i64 ((((c).toNat) / 16 : Nat) : Int)]) call_95 (args1 (hT 16 rfl rfl)) rfl ((sign_ (((c).toNat) / 16) wq (by omega)).mono fun v w2 h => ⟨h.2, h.1⟩)
 exact Am s0_5 rfl fun _ => rfl
 exact Am s4_5 rfl fun _ => rfl
 exact Ad fun aq wq _ hO hR hT => does_indexStr (l := l) (i := (k : Int)) (c := c) Tryd.underlying9 (hT 18 rfl rfl) (hT 19 rfl rfl) (by omega) hc eR
 exact Ad fun aq wq _ hO hR hT => does_conv ⟨_, Tryd.underlying5⟩ Tryd.underlying3 (hT 20 rfl rfl) (conv_w_i8 _) eR
 exact Ad fun aq wq _ hO hR hT => does_rem (k := .i64) (a := (((c).toNat : Nat) : Int)) (b := ((16 : Nat) : Int)) (r := ((((c).toNat) % 16 : Nat) : Int)) (hT 21 rfl rfl) rfl (by omega) (by omega) (by omega) eR
 exact Ad fun aq wq _ hO hR hT => does_ret (vs := #[i64 ((((c).toNat) % 16 : Nat) : Int)]) call_95 (args1 (hT 22 rfl rfl)) rfl ((sign_ (((c).toNat) % 16) wq (by omega)).mono fun v w2 h => ⟨h.2, h.1⟩)
 exact Ad fun aq wq _ hO hR hT => does_sliceN (T := W8) (xs := [hexc (((c).toNat) / 16), hexc (((c).toNat) % 16)]) (vs := [w8 (hexc (((c).toNat) / 16)), w8 (hexc (((c).toNat) % 16))]) app_68 rfl (parts2 (hT 17 rfl rfl) (hT 23 rfl rfl)) rfl (by decide) (by decide) rfl (fun v w2 he _ ho => ⟨he, OwnT.base ho hR.size'⟩)
 intro a6 wd6 N6 D6 hO hR hA hU
 obtain ⟨t11, _, _, _, _, _, _, _, _, _, _, _, _, t24, _⟩ := hA
 have E6 := E5.trans hR
 have s0_6 := oT hO s0_5 rfl
 have s3_6 := oT hO s3_5 rfl
 have s4_6 := oT hO s4_5 rfl
 have hsxo_6 := hsxo_5.ext' hR
 have hoxo_6 := hoxo_5.ext' hR
 have s11_6 : get a6 11 = xo := t11
 obtain ⟨x24, s24_6⟩ : ∃ x, get a6 24 = x := ⟨_, rfl⟩
 replace t24 : OwnT W8 wd5.heap.size 5 ([hexc (((c).toNat) / 16), hexc (((c).toNat) % 16)]) x24 wd6 := by rw [← s24_6]; exact t24
 have no_x24_xo := Oo t24 hoxo_5
 have X24_6 := t24.sl.wide (Nat.zero_le _) (.inl rfl)
 have O24_6 := OwnT.base t24 E5.size'
 clear E5 N5 D5 s0_5 s3_5 s4_5 s8_5 hsxo_5 hoxo_5
 refine tail_put rfl rfl N6 D6 (by decide) (does_append (T := W8) (base := w0.heap.size) (xs := hexs (l.take k)) (ys := [hexc (((c).toNat) / 16), hexc (((c).toNat) % 16)]) (v := xo) app_68 s11_6 hoxo_6 (SlT.at s24_6 X24_6) (by simp) (by simp only [hexs_len, List.length_take, List.length_cons, List.length_nil]; omega) (by simp only [hexs_len, List.length_take, List.length_cons, List.length_nil]; omega) E6.size' (fun x25 wd7 hX O25_7 hk a7 N7 D7 hv hO => ?_))
 have E7 := E6.since hX (fun b hb => Nat.le_trans (Nat.le_refl _) (OwnT.block_lt hoxo_6 hb).1)
 have O24_7 := OwnT.ext O24_6 hX (fun k hk e => no_x24_xo k hk e)
 have no_x25_x24 : ∀ k, x25.ownBlock = some k → x24.ownBlock ≠ some k := fun k e e' => (hk k e).elim (fun h => no_x24_xo k e' h) (fun h => Nat.lt_irrefl _ (Nat.lt_of_lt_of_le (OwnT.block_lt O24_6 e').2 h))
 have X24_7 := O24_7.sl.wide (Nat.zero_le _) (.inl rfl)
 have X25_7 := O25_7.sl.wide (Nat.zero_le _) (.inl rfl)
 rw [hexs_step hc] at O25_7 X25_7
 have s25_7 := hv
 have s0_7 := oT hO s0_6 rfl
 have s3_7 := oT hO s3_6 rfl
 have s4_7 := oT hO s4_6 rfl
 clear hO hv hX hk N6 D6 E6 O24_6 s0_6 s3_6 s4_6 s11_6 s24_6
 refine tail_put rfl rfl N7 D7 (by decide) (does_assign (V := x25) s25_7 (fun a8 N8 D8 hv hO => ?_))
 have s3_8 := hv
 have s0_8 := oT hO s0_7 rfl
 have s4_8 := oT hO s4_7 rfl
 clear hO hv N7 D7 s0_7 s4_7 s25_7 s3_7
 refine tail_nil ?_
 refine Rl [] [(9, Pr.ex (i64 (k : Int))), (10, Pr.ex (i64 ((k + 1 : Nat) : Int)))] 2 N8 D8 ?_ ?_
 refine Ac ?_ (Ac ?_ (Az _))
 exact Am s4_8 rfl fun _ => rfl
 exact Ap fun aq wq _ hO hR hT => does_add (a := (k : Int)) (b := ((1 : Nat) : Int)) (r := ((k + 1 : Nat) : Int)) (hT 9 rfl rfl) rfl (by omega) (by omega) (by omega) eR
 intro a9 wd9 N9 D9 hO hR hA hU
 obtain ⟨_, t10, _⟩ := hA
 have E9 := E7.trans hR
 have s0_9 := oT hO s0_8 rfl
 have s3_9 := oT hO s3_8 rfl
 have s4_9 := oT hO s4_8 rfl
 have X24_9 := X24_7.ext' hR
 have X25_9 := X25_7.ext' hR
 have O24_9 := O24_7.ext' hR
 have O25_9 := O25_7.ext' hR
 have s10_9 : get a9 10 = i64 ((k + 1 : Nat) : Int) := t10
 clear E7 N8 D8 s0_8 s3_8 s4_8 X24_7 X25_7 O24_7 O25_7
 refine tail_put rfl rfl N9 D9 (by decide) (does_assign (V := i64 ((k + 1 : Nat) : Int)) s10_9 (fun a10 N10 D10 hv hO => ?_))
 have s4_10 := hv
 have s0_10 := oT hO s0_9 rfl
 have s3_10 := oT hO s3_9 rfl
 clear hO hv N9 D9 s0_9 s3_9 s10_9 s4_9
 refine tail_nil ?_
 exact ⟨_, by omega, k + 1, x25, rfl, N10, D10, s0_10, s3_10, s4_10, E9, O25_9, by omega⟩
 have hc0 := of_decide_eq_false hc0
 have hkl : hexs (l.take k) = hexs l := by rw [List.take_of_length_le (by omega)]
 refine wp_exit ?_
 refine wp_seq ?_
 refine Rl [] [(26, Pr.ex (xo)), (27, Pr.ex (str (hexs (l.take k)))), (2, Pr.ex (str (hexs (l.take k))))] 3 N5 D5 ?_ ?_
 refine Ac ?_ (Ac ?_ (Ac ?_ (Az _)))
 exact Am s3_5 rfl fun _ => rfl
 exact Ap fun aq wq _ hO hR hT => does_string (l := hexs (l.take k)) Tryd.underlying9 Tryd.underlying68 Tryd.underlying5 (SlT.at (hT 26 rfl rfl) (hsxo_5.ext' hR)) eR
 exact Ap fun aq wq _ hO hR hT => does_assign (V := str (hexs (l.take k))) (hT 27 rfl rfl) eR
 intro a11 wd11 N11 D11 hO hR hA hU
 obtain ⟨_, _, t2, _⟩ := hA
 have E11 := E5.trans hR
 have hsxo_11 := hsxo_5.ext' hR
 have hoxo_11 := hoxo_5.ext' hR
 have s2_11 : get a11 2 = str (hexs (l.take k)) := t2
 clear E5 N5 D5 s0_5 s3_5 s4_5 s8_5 hsxo_5 hoxo_5
 refine tail_nil ?_
 refine wp_ret ?_
 refine res_one (V := str (hexs (l.take k))) rfl D11 s2_11 ?_
 exact ⟨by show str _ = str _; rw [hkl], E11⟩

theorem text3 (m : Dg) (w0 : World) :
    Gives Tryd.prog 90 #[Dg.val (m)] w0 (Pr.ex (str ((digits m).map hexc))) := by
 refine enter (N := 34) Tryd.func90 rfl rfl ?_
 intro a0 N0 D0 hA
 have s0_0 : get a0 0 = Dg.val (m) := hA 0 _ rfl
 clear hA
 have E0 : Ext w0 w0 := Ext.refl w0
 refine wp_seq ?_
 refine Rl [1] [(1, Pr.box' w0.heap.size 24 [w32 (m).a, w32 (m).b, w32 (m).c, w32 (m).d]), (2, Pr.ex (str (([] : List UInt8))))] 2 N0 D0 ?_ ?_
 refine Ac ?_ (Ac ?_ (Az _))
 refine Ask.fresh rfl rfl ?_
 intro aq wq hNq hO hR hT
 exact does_box (V := Dg.val (m)) (oT hO s0_0 rfl) (fun b w2 he hlo hb => ⟨he, ⟨b, rfl, Nat.le_trans hR.size' hlo, hb⟩, ⟨b, rfl, hlo, hb.lt⟩⟩)
 exact Ap fun aq wq _ hO hR hT => does_assign (V := str (([] : List UInt8))) rfl eR
 intro a1 wd1 N1 D1 hO hR hA hU
 obtain ⟨t1, _, _⟩ := hA
 have E1 := E0.trans hR
 obtain ⟨b1, s1_1, lo_b1, B1_1⟩ := t1
 have fr_b1 : w0.heap.size ≤ b1 := Nat.le_trans E0.size' lo_b1
 clear E0 N0 D0 s0_0
 refine tail_nil ?_
 refine wp_seq ?_
 refine Rl [] [(3, Pr.ex (str (([] : List UInt8))))] 1 N1 D1 ?_ ?_
 refine Ac ?_ (Az _)
 exact Ap fun aq wq _ hO hR hT => does_assign (V := str (([] : List UInt8))) rfl eR
 intro a2 wd2 N2 D2 hO hR hA hU
 obtain ⟨t3, _⟩ := hA
 have E2 := E1.trans hR
 have s1_2 := oT hO s1_1 rfl
 have B1_2 := B1_1.ext' hR
 have s3_2 : get a2 3 = str (([] : List UInt8)) := t3
 clear E1 N1 D1 s1_1 B1_1
 refine tail_nil ?_
 refine wp_seq ?_
 refine wp_seq ?_
 refine Rl [] [(4, Pr.ex (i64 ((0 : Nat) : Int)))] 1 N2 D2 ?_ ?_
 refine Ac ?_ (Az _)
 exact Ap fun aq wq _ hO hR hT => does_assign (V := i64 ((0 : Nat) : Int)) rfl eR
 intro a3 wd3 N3 D3 hO hR hA hU
 obtain ⟨t4, _⟩ := hA
 have E3 := E2.trans hR
 have s1_3 := oT hO s1_2 rfl
 have s3_3 := oT hO s3_2 rfl
 have B1_3 := B1_2.ext' hR
 have s4_3 : get a3 4 = i64 ((0 : Nat) : Int) := t4
 clear E2 N2 D2 s1_2 s3_2 B1_2
 refine tail_nil ?_
 refine wp_block ?_
 refine loop_g (fun mz az wz => ∃ k : Nat, mz = 4 - k ∧ (az.tmps.size = 34) ∧ (az.defers = []) ∧ (get az 1 = Value.pointer (some ⟨b1, 0, none⟩)) ∧ (get az 3 = str (beU m k)) ∧ (get az 4 = i64 (k : Int)) ∧ (Ext w0 wz) ∧ (Has wz b1 24 [w32 (m).a, w32 (m).b, w32 (m).c, w32 (m).d]) ∧ (k ≤ 4)) ?_ ?_
 exact ⟨_, 0, rfl, N3, D3, s1_3, s3_3, s4_3, E3, B1_3, by decide⟩
 rintro mz a4 wd4 ⟨k, rfl, N4, D4, s1_4, s3_4, s4_4, E4, B1_4, hk⟩
 refine wp_seq ?_
 refine wp_seq ?_
 refine Rl [] [(5, Pr.ex (i64 (k : Int))), (6, Pr.ex (Value.bool (decide ((k : Int) < ((4 : Nat) : Int)))))] 2 N4 D4 ?_ ?_
 refine Ac ?_ (Ac ?_ (Az _))
 exact Am s4_4 rfl fun _ => rfl
 exact Ap fun aq wq _ hO hR hT => does_lss (a := (k : Int)) (b := ((4 : Nat) : Int)) (hT 5 rfl rfl) rfl eR
 intro a5 wd5 N5 D5 hO hR hA hU
 obtain ⟨_, t6, _⟩ := hA
 have E5 := E4.trans hR
 have s1_5 := oT hO s1_4 rfl
 have s3_5 := oT hO s3_4 rfl
 have s4_5 := oT hO s4_4 rfl
 have B1_5 := B1_4.ext' hR
 have s6_5 : get a5 6 = Value.bool (decide ((k : Int) < ((4 : Nat) : Int))) := t6
 clear E4 N4 D4 s1_4 s3_4 s4_4 B1_4
 refine tail_nil ?_
 refine wp_if (B := decide ((k : Int) < ((4 : Nat) : Int))) s6_5 (fun hc0 => ?_) (fun hc0 => ?_)
 have hc0 := of_decide_eq_true hc0
 refine wp_skip ?_
 refine wp_seq ?_
 refine wp_block ?_
 refine Ra [] [(9, Pr.ex (str (beU m k))), (10, Pr.ex (i64 (k : Int))), (11, Pr.pt' 0 0 [w32 (Dg.at m k)]), (12, Pr.ex (w32 (Dg.at m k))), (13, Pr.ex (w32 (UInt32.ofNat ((Dg.at m k).toNat / 2 ^ 24)))), (14, Pr.ex (w8 (UInt8.ofNat (UInt32.ofNat ((Dg.at m k).toNat / 2 ^ 24)).toNat))), (15, Pr.ex (i64 (k : Int))), (16, Pr.pt' 0 0 [w32 (Dg.at m k)]), (17, Pr.ex (w32 (Dg.at m k))), (18, Pr.ex (w32 (UInt32.ofNat ((Dg.at m k).toNat / 2 ^ 16)))), (19, Pr.ex (w8 (UInt8.ofNat (UInt32.ofNat ((Dg.at m k).toNat / 2 ^ 16)).toNat))), (20, Pr.ex (i64 (k : Int))), (21, Pr.pt' 0 0 [w32 (Dg.at m k)]), (22, Pr.ex (w32 (Dg.at m k))), (23, Pr.ex (w32 (UInt32.ofNat ((Dg.at m k).toNat / 2 ^ 8)))), (24, Pr.ex (w8 (UInt8.ofNat (UInt32.ofNat ((Dg.at m k).toNat / 2 ^ 8)).toNat))), (25, Pr.ex (i64 (k : Int))), (26, Pr.pt' 0 0 [w32 (Dg.at m k)]), (27, Pr.ex (w32 (Dg.at m k))), (28, Pr.ex (w8 (UInt8.ofNat (Dg.at m k).toNat))), (29, Pr.own' W8 wd5.heap.size 5 ([UInt8.ofNat (UInt32.ofNat ((Dg.at m k).toNat / 2 ^ 24)).toNat, UInt8.ofNat (UInt32.ofNat ((Dg.at m k).toNat / 2 ^ 16)).toNat, UInt8.ofNat (UInt32.ofNat ((Dg.at m k).toNat / 2 ^ 8)).toNat, UInt8.ofNat (Dg.at m k).toNat])), (30, Pr.ex (str ([UInt8.ofNat (UInt32.ofNat ((Dg.at m k).toNat / 2 ^ 24)).toNat, UInt8.ofNat (UInt32.ofNat ((Dg.at m k).toNat / 2 ^ 16)).toNat, UInt8.ofNat (UInt32.ofNat ((Dg.at m k).toNat / 2 ^ 8)).toNat, UInt8.ofNat (Dg.at m k).toNat]))), (31, Pr.ex (str ((beU m k) ++ [UInt8.ofNat (UInt32.ofNat ((Dg.at m k).toNat / 2 ^ 24)).toNat, UInt8.ofNat (UInt32.ofNat ((Dg.at m k).toNat / 2 ^ 16)).toNat, UInt8.ofNat (UInt32.ofNat ((Dg.at m k).toNat / 2 ^ 8)).toNat, UInt8.ofNat (Dg.at m k).toNat])))] 23 mixed N5 D5 ?_ ?_
 refine Ac ?_ (Ac ?_ (Ac ?_ (Ac ?_ (Ac ?_ (Ac ?_ (Ac ?_ (Ac ?_ (Ac ?_ (Ac ?_ (Ac ?_ (Ac ?_ (Ac ?_ (Ac ?_ (Ac ?_ (Ac ?_ (Ac ?_ (Ac ?_ (Ac ?_ (Ac ?_ (Ac ?_ (Ac ?_ (Ac ?_ (Az _)))))))))))))))))))))))
 exact Am s3_5 rfl fun _ => rfl
 exact Am s4_5 rfl fun _ => rfl
 exact Ad fun aq wq _ hO hR hT => does_indexDgP (m := m) (i := (k : Int)) arr_24 (oT hO s1_5 rfl) (hT 10 rfl rfl) (by omega) (by omega) (B1_5.ext' hR) (fun v h => ⟨Ext.refl _, h⟩)
 exact Ad fun aq wq _ hO hR hT => does_loadP1 (V := w32 (Dg.at m k)) (hT 11 rfl rfl) one_22 eR
 exact Ad fun aq wq _ hO hR hT => does_shr32 (a := Dg.at m k) (b := 24) (hT 12 rfl rfl) rfl (by decide) eR
 exact Ad fun aq wq _ hO hR hT => does_conv ⟨_, Tryd.underlying22⟩ Tryd.underlying5 (hT 13 rfl rfl) (wrap_u8 _) eR
 exact Am s4_5 rfl fun _ => rfl
 exact Ad fun aq wq _ hO hR hT => does_indexDgP (m := m) (i := (k : Int)) arr_24 (oT hO s1_5 rfl) (hT 15 rfl rfl) (by omega) (by omega) (B1_5.ext' hR) (fun v h => ⟨Ext.refl _, h⟩)
 exact Ad fun aq wq _ hO hR hT => does_loadP1 (V := w32 (Dg.at m k)) (hT 16 rfl rfl) one_22 eR
 exact Ad fun aq wq _ hO hR hT => does_shr32 (a := Dg.at m k) (b := 16) (hT 17 rfl rfl) rfl (by decide) eR
 exact Ad fun aq wq _ hO hR hT => does_conv ⟨_, Tryd.underlying22⟩ Tryd.underlying5 (hT 18 rfl rfl) (wrap_u8 _) eR
 exact Am s4_5 rfl fun _ => rfl
 exact Ad fun aq wq _ hO hR hT => does_indexDgP (m := m) (i := (k : Int)) arr_24 (oT hO s1_5 rfl) (hT 20 rfl rfl) (by omega) (by omega) (B1_5.ext' hR) (fun v h => ⟨Ext.refl _, h⟩)
 exact Ad fun aq wq _ hO hR hT => does_loadP1 (V := w32 (Dg.at m k)) (hT 21 rfl rfl) one_22 eR
 exact Ad fun aq wq _ hO hR hT => does_shr32 (a := Dg.at m k) (b := 8) (hT 22 rfl rfl) rfl (by decide) eR
 exact Ad fun aq wq _ hO hR hT => does_conv ⟨_, Tryd.underlying22⟩ Tryd.underlying5 (hT 23 rfl rfl) (wrap_u8 _) eR
 exact Am s4_5 rfl fun _ => rfl
 exact Ad fun aq wq _ hO hR hT => does_indexDgP (m := m) (i := (k : Int)) arr_24 (oT hO s1_5 rfl) (hT 25 rfl rfl) (by omega) (by omega) (B1_5.ext' hR) (fun v h => ⟨Ext.refl _, h⟩)
 exact Ad fun aq wq _ hO hR hT => does_loadP1 (V := w32 (Dg.at m k)) (hT 26 rfl rfl) one_22 eR
 exact Ad fun aq wq _ hO hR hT => does_conv ⟨_, Tryd.underlying22⟩ Tryd.underlying5 (hT 27 rfl rfl) (wrap_u8 _) eR
 exact Ad fun aq wq _ hO hR hT => does_sliceN (T := W8) (xs := [UInt8.ofNat (UInt32.ofNat ((Dg.at m k).toNat / 2 ^ 24)).toNat, UInt8.ofNat (UInt32.ofNat ((Dg.at m k).toNat / 2 ^ 16)).toNat, UInt8.ofNat (UInt32.ofNat ((Dg.at m k).toNat / 2 ^ 8)).toNat, UInt8.ofNat (Dg.at m k).toNat]) (vs := [w8 (UInt8.ofNat (UInt32.ofNat ((Dg.at m k).toNat / 2 ^ 24)).toNat), w8 (UInt8.ofNat (UInt32.ofNat ((Dg.at m k).toNat / 2 ^ 16)).toNat), w8 (UInt8.ofNat (UInt32.ofNat ((Dg.at m k).toNat / 2 ^ 8)).toNat), w8 (UInt8.ofNat (Dg.at m k).toNat)]) app_68 rfl (parts4 (hT 14 rfl rfl) (hT 19 rfl rfl) (hT 24 rfl rfl) (hT 28 rfl rfl)) rfl (by decide) (by decide) rfl (fun v w2 he _ ho => ⟨he, OwnT.base ho hR.size'⟩)
 exact Ad fun aq wq _ hO hR hT => does_string (l := [UInt8.ofNat (UInt32.ofNat ((Dg.at m k).toNat / 2 ^ 24)).toNat, UInt8.ofNat (UInt32.ofNat ((Dg.at m k).toNat / 2 ^ 16)).toNat, UInt8.ofNat (UInt32.ofNat ((Dg.at m k).toNat / 2 ^ 8)).toNat, UInt8.ofNat (Dg.at m k).toNat]) Tryd.underlying9 Tryd.underlying68 Tryd.underlying5 ((OwnT.sl (hT 29 rfl rfl)).wide (Nat.zero_le _) (.inl rfl)) eR
 exact Ad fun aq wq _ hO hR hT => does_cat (a := beU m k) (b := [UInt8.ofNat (UInt32.ofNat ((Dg.at m k).toNat / 2 ^ 24)).toNat, UInt8.ofNat (UInt32.ofNat ((Dg.at m k).toNat / 2 ^ 16)).toNat, UInt8.ofNat (UInt32.ofNat ((Dg.at m k).toNat / 2 ^ 8)).toNat, UInt8.ofNat (Dg.at m k).toNat]) (hT 9 rfl rfl) (hT 30 rfl rfl) (by rw [beU_len]; simp only [List.length_cons, List.length_nil]; omega) eR
 intro a6 wd6 N6 D6 hO hR hA hU
 obtain ⟨_, _, _, _, _, _, _, _, _, _, _, _, _, _, _, _, _, _, _, _, _, _, t31, _⟩ := hA
 have E6 := E5.trans hR
 have s1_6 := oT hO s1_5 rfl
 have s3_6 := oT hO s3_5 rfl
 have s4_6 := oT hO s4_5 rfl
 have B1_6 := B1_5.ext' hR
 have s31_6 : get a6 31 = str ((beU m k) ++ [UInt8.ofNat (UInt32.ofNat ((Dg.at m k).toNat / 2 ^ 24)).toNat, UInt8.ofNat (UInt32.ofNat ((Dg.at m k).toNat / 2 ^ 16)).toNat, UInt8.ofNat (UInt32.ofNat ((Dg.at m k).toNat / 2 ^ 8)).toNat, UInt8.ofNat (Dg.at m k).toNat]) := t31
 clear E5 N5 D5 s1_5 s3_5 s4_5 s6_5 B1_5
 refine tail_put rfl rfl N6 D6 (by decide) (does_assign (V := str ((beU m k) ++ [UInt8.ofNat (UInt32.ofNat ((Dg.at m k).toNat / 2 ^ 24)).toNat, UInt8.ofNat (UInt32.ofNat ((Dg.at m k).toNat / 2 ^ 16)).toNat, UInt8.ofNat (UInt32.ofNat ((Dg.at m k).toNat / 2 ^ 8)).toNat, UInt8.ofNat (Dg.at m k).toNat])) s31_6 (fun a7 N7 D7 hv hO => ?_))
 have s3_7 := hv
 have s1_7 := oT hO s1_6 rfl
 have s4_7 := oT hO s4_6 rfl
 clear hO hv N6 D6 s1_6 s4_6 s31_6 s3_6
 refine tail_nil ?_
 refine Rl [] [(7, Pr.ex (i64 (k : Int))), (8, Pr.ex (i64 ((k + 1 : Nat) : Int)))] 2 N7 D7 ?_ ?_
 refine Ac ?_ (Ac ?_ (Az _))
 exact Am s4_7 rfl fun _ => rfl
 exact Ap fun aq wq _ hO hR hT => does_add (a := (k : Int)) (b := ((1 : Nat) : Int)) (r := ((k + 1 : Nat) : Int)) (hT 7 rfl rfl) rfl (by omega) (by omega) (by omega) eR
 intro a8 wd8 N8 D8 hO hR hA hU
 obtain ⟨_, t8, _⟩ := hA
 have E8 := E6.trans hR
 have s1_8 := oT hO s1_7 rfl
 have s3_8 := oT hO s3_7 rfl
 have s4_8 := oT hO s4_7 rfl
 have B1_8 := B1_6.ext' hR
 have s8_8 : get a8 8 = i64 ((k + 1 : Nat) : Int) := t8
 clear E6 N7 D7 s1_7 s3_7 s4_7 B1_6
 refine tail_put rfl rfl N8 D8 (by decide) (does_assign (V := i64 ((k + 1 : Nat) : Int)) s8_8 (fun a9 N9 D9 hv hO => ?_))
 have s4_9 := hv
 have s1_9 := oT hO s1_8 rfl
 have s3_9 := oT hO s3_8 rfl
 clear hO hv N8 D8 s1_8 s3_8 s8_8 s4_8
 refine tail_nil ?_
 exact ⟨_, by omega, k + 1, rfl, N9, D9, s1_9, (by rw [beU_step]; exact s3_9), s4_9, E8, B1_8, by omega⟩
 have hc0 := of_decide_eq_false hc0
 refine wp_exit ?_
 refine wp_seq ?_
 refine Rl [] [(32, Pr.ex (str (beU m k))), (33, Pr.ex (str (hexs (beU m k)))), (2, Pr.ex (str (hexs (beU m k))))] 3 N5 D5 ?_ ?_
 refine Ac ?_ (Ac ?_ (Ac ?_ (Az _)))
 exact Am s3_5 rfl fun _ => rfl
 exact Ap fun aq wq _ hO hR hT => does_ret (vs := #[str (beU m k)]) call_94 (args1 (hT 32 rfl rfl)) rfl ((text2 (beU m k) wq (by rw [beU_len]; omega)).mono fun v w2 h => ⟨h.2, h.1⟩)
 exact Ap fun aq wq _ hO hR hT => does_assign (V := str (hexs (beU m k))) (hT 33 rfl rfl) eR
 intro a10 wd10 N10 D10 hO hR hA hU
 obtain ⟨_, _, t2, _⟩ := hA
 have E10 := E5.trans hR
 have B1_10 := B1_5.ext' hR
 have s2_10 : get a10 2 = str (hexs (beU m k)) := t2
 clear E5 N5 D5 s1_5 s3_5 s4_5 s6_5 B1_5
 refine tail_nil ?_
 refine wp_ret ?_
 refine res_one (V := str (hexs (beU m k))) rfl D10 s2_10 ?_
 have hk4 : k = 4 := by omega
 exact ⟨by show str _ = str _; rw [hk4, text_eq], E10⟩

end Go.Proofs.YtmmghpbncejfiaaDoor
