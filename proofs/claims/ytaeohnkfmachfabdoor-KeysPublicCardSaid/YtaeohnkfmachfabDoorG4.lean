/- The walks of functions of the program: printed. -/
import Derived.Test.YtaeohnkfmachfabDoorG3
import Derived.Test.YtaeohnkfmachfabDoorF0
set_option maxRecDepth 100000
namespace Go.Proofs.YtaeohnkfmachfabDoor
open Go Go.RowKit Sk Sd
theorem bytes_ (l : List UInt32) (x1 : Value) (w0 : World) (hx1 : SlT W32 0 0 l x1 w0) (hn : l.length ≤ 1048576) :
    Gives Tryd.prog 56 #[x1] w0 (Pr.ex (str (wbytes l))) := by
 refine enter (N := 33) Tryd.func56 rfl rfl ?_
 intro a0 hN_0 hD_0 hA
 have s0_0 : get a0 0 = x1 := hA 0 _ rfl
 clear hA
 have hE_0 : Ext w0 w0 := Ext.refl w0
 have hsx1_0 := hx1.close
 refine wp_seq ?_
 refine region_lex [] [(2, Pr.ex (str (([] : List UInt8))))] 1 hN_0 hD_0 (by kernel_rfl) (by kernel_rfl) ?_ ?_
 refine Asks.cons ?_ (Asks.zero _)
 exact Ask.plain rfl rfl fun aq wq hNq hO hR hT => does_assign (V := str (([] : List UInt8))) rfl ⟨Ext.refl _, rfl⟩
 intro a1 wd1 hN_1 hD_1 hO hR hA hU
 obtain ⟨_, _⟩ := hA
 have hE_1 := hE_0.trans hR
 have s0_1 := (hO 0 rfl).trans s0_0
 have hsx1_1 := hsx1_0.ext' hR
 clear hE_0 hN_0 hD_0 s0_0 hsx1_0
 refine tail_nil ?_
 refine wp_seq ?_
 refine region_lex [] [(6, Pr.ex (x1)), (7, Pr.ex (i64 ((l.length : Nat) : Int))), (8, Pr.ex (i64 ((4 * l.length : Nat) : Int))), (9, Pr.own' W8 wd1.heap.size 5 ([])), (3, Pr.own' W8 wd1.heap.size 5 ([]))] 5 hN_1 hD_1 (by kernel_rfl) (by kernel_rfl) ?_ ?_
 refine Asks.cons ?_ (Asks.cons ?_ (Asks.cons ?_ (Asks.cons ?_ (Asks.cons ?_ (Asks.zero _)))))
 exact Ask.plain rfl rfl fun aq wq hNq hO hR hT => does_move (V := x1) ((hO 0 rfl).trans s0_1) ⟨Ext.refl _, rfl⟩
 exact Ask.plain rfl rfl fun aq wq hNq hO hR hT => does_len (T := W32) (xs := l) sli_70 (SlT.at (hT 6 rfl rfl) (hsx1_1.ext' hR)) ⟨Ext.refl _, rfl⟩
 exact Ask.plain rfl rfl fun aq wq hNq hO hR hT => does_mul (a := ((4 : Nat) : Int)) (b := ((l.length : Nat) : Int)) (r := ((4 * l.length : Nat) : Int)) rfl (hT 7 rfl rfl) (by simp) (by omega) (by omega) ⟨Ext.refl _, rfl⟩
 exact Ask.plain rfl rfl fun aq wq hNq hO hR hT => does_make0 (T := W8) (c := 4 * l.length) app_85 rfl rfl (hT 8 rfl rfl) (by omega) (by unfold maxLen; omega) (fun v w2 he _ ho => ⟨he, OwnT.base ho hR.size'⟩)
 exact Ask.plain rfl rfl fun aq wq hNq hO hR hT => does_assign rfl ⟨Ext.refl _, (hT 9 rfl rfl)⟩
 intro a2 wd2 hN_2 hD_2 hO hR hA hU
 obtain ⟨_, _, _, _, t3, _⟩ := hA
 have hE_2 := hE_1.trans hR
 have s0_2 := (hO 0 rfl).trans s0_1
 have hsx1_2 := hsx1_1.ext' hR
 obtain ⟨x3, s3_2⟩ : ∃ x, get a2 3 = x := ⟨_, rfl⟩
 replace t3 : OwnT W8 wd1.heap.size 5 ([]) x3 wd2 := by rw [← s3_2]; exact t3
 have hsx3_2 := t3.sl.wide (Nat.zero_le _) (.inl rfl)
 have hox3_2 := OwnT.base t3 hE_1.size'
 clear hE_1 hN_1 hD_1 s0_1 hsx1_1
 refine tail_nil ?_
 refine wp_seq ?_
 refine wp_seq ?_
 refine region_lex [] [(10, Pr.ex (x1)), (11, Pr.ex (i64 ((l.length : Nat) : Int))), (12, Pr.ex (i64 ((0 : Nat) : Int)))] 3 hN_2 hD_2 (by kernel_rfl) (by kernel_rfl) ?_ ?_
 refine Asks.cons ?_ (Asks.cons ?_ (Asks.cons ?_ (Asks.zero _)))
 exact Ask.plain rfl rfl fun aq wq hNq hO hR hT => does_move (V := x1) ((hO 0 rfl).trans s0_2) ⟨Ext.refl _, rfl⟩
 exact Ask.plain rfl rfl fun aq wq hNq hO hR hT => does_len (T := W32) (xs := l) sli_70 (SlT.at (hT 10 rfl rfl) (hsx1_2.ext' hR)) ⟨Ext.refl _, rfl⟩
 exact Ask.plain rfl rfl fun aq wq hNq hO hR hT => does_move (V := i64 ((0 : Nat) : Int)) rfl ⟨Ext.refl _, rfl⟩
 intro a3 wd3 hN_3 hD_3 hO hR hA hU
 obtain ⟨t10, t11, t12, _⟩ := hA
 have hE_3 := hE_2.trans hR
 have s3_3 := (hO 3 rfl).trans s3_2
 have hsx1_3 := hsx1_2.ext' hR
 have hsx3_3 := hsx3_2.ext' hR
 have hox3_3 := hox3_2.ext' hR
 have s10_3 : get a3 10 = x1 := t10
 have s11_3 : get a3 11 = i64 ((l.length : Nat) : Int) := t11
 have s12_3 : get a3 12 = i64 ((0 : Nat) : Int) := t12
 clear hE_2 hN_2 hD_2 s0_2 s3_2 hsx1_2 hsx3_2 hox3_2
 refine tail_nil ?_
 refine wp_block ?_
 refine loop_g (fun mz az wz => ∃ k : Nat, ∃ xo : Value, mz = l.length - k ∧ (az.tmps.size = 33) ∧ (az.defers = []) ∧ (get az 3 = xo) ∧ (get az 10 = x1) ∧ (get az 11 = i64 ((l.length : Nat) : Int)) ∧ (get az 12 = i64 ((k : Nat) : Int)) ∧ (Ext w0 wz) ∧ (SlT W32 0 (w0.heap.size + 1) (l) x1 wz) ∧ (OwnT W8 w0.heap.size 5 (wbytes (l.take k)) xo wz) ∧ (k ≤ l.length)) ?_ ?_
 exact ⟨_, 0, x3, rfl, hN_3, hD_3, s3_3, s10_3, s11_3, s12_3, hE_3, hsx1_3, hox3_3, Nat.zero_le _⟩
 rintro mz a4 wd4 ⟨k, xo, rfl, hN_4, hD_4, s3_4, s10_4, s11_4, s12_4, hE_4, hsx1_4, hoxo_4, hk⟩
 have hsxo_4 := hoxo_4.sl.wide (Nat.zero_le _) (.inl rfl)
 refine wp_seq ?_
 refine region_lex [] [(13, Pr.ex (Value.bool (decide (((k : Nat) : Int) < ((l.length : Nat) : Int)))))] 1 hN_4 hD_4 (by kernel_rfl) (by kernel_rfl) ?_ ?_
 refine Asks.cons ?_ (Asks.zero _)
 exact Ask.plain rfl rfl fun aq wq hNq hO hR hT => does_lss (a := ((k : Nat) : Int)) (b := ((l.length : Nat) : Int)) ((hO 12 rfl).trans s12_4) ((hO 11 rfl).trans s11_4) ⟨Ext.refl _, rfl⟩
 intro a5 wd5 hN_5 hD_5 hO hR hA hU
 obtain ⟨t13, _⟩ := hA
 have hE_5 := hE_4.trans hR
 have s3_5 := (hO 3 rfl).trans s3_4
 have s10_5 := (hO 10 rfl).trans s10_4
 have s11_5 := (hO 11 rfl).trans s11_4
 have s12_5 := (hO 12 rfl).trans s12_4
 have hsx1_5 := hsx1_4.ext' hR
 have hsxo_5 := hsxo_4.ext' hR
 have hoxo_5 := hoxo_4.ext' hR
 have s13_5 : get a5 13 = Value.bool (decide (((k : Nat) : Int) < ((l.length : Nat) : Int))) := t13
 clear hE_4 hN_4 hD_4 s3_4 s10_4 s11_4 s12_4 hsx1_4 hsxo_4 hoxo_4
 refine tail_nil ?_
 refine wp_seq ?_
 refine wp_if (B := decide (((k : Nat) : Int) < ((l.length : Nat) : Int))) s13_5 (fun hc0 => ?_) (fun hc0 => ?_)
 have hc0 := of_decide_eq_true hc0
 obtain ⟨x, hx⟩ := get_of_lt (l := l) (k := k) (by omega)
 refine wp_skip ?_
 refine wp_seq ?_
 refine wp_block ?_
 refine wp_seq ?_
 refine region_lex [] [(14, Pr.pt' 0 (w0.heap.size + 1) [w32 (x)]), (15, Pr.ex (w32 (x))), (5, Pr.ex (w32 (x)))] 3 hN_5 hD_5 (by kernel_rfl) (by kernel_rfl) ?_ ?_
 refine Asks.cons ?_ (Asks.cons ?_ (Asks.cons ?_ (Asks.zero _)))
 exact Ask.plain rfl rfl fun aq wq hNq hO hR hT => does_indexSl (T := W32) (xs := l) (i := ((k : Nat) : Int)) (X := x) sli_70 rfl (SlT.at ((hO 10 rfl).trans s10_5) (hsx1_5.ext' hR)) ((hO 12 rfl).trans s12_5) (by omega) hx (fun v h => ⟨Ext.refl _, h⟩)
 exact Ask.plain rfl rfl fun aq wq hNq hO hR hT => does_loadP1 (V := w32 (x)) (hT 14 rfl rfl) one_22 ⟨Ext.refl _, rfl⟩
 exact Ask.plain rfl rfl fun aq wq hNq hO hR hT => does_assign (V := w32 (x)) (hT 15 rfl rfl) ⟨Ext.refl _, rfl⟩
 intro a6 wd6 hN_6 hD_6 hO hR hA hU
 obtain ⟨_, _, t5, _⟩ := hA
 have hE_6 := hE_5.trans hR
 have s3_6 := (hO 3 rfl).trans s3_5
 have s10_6 := (hO 10 rfl).trans s10_5
 have s11_6 := (hO 11 rfl).trans s11_5
 have s12_6 := (hO 12 rfl).trans s12_5
 have hsx1_6 := hsx1_5.ext' hR
 have hsxo_6 := hsxo_5.ext' hR
 have hoxo_6 := hoxo_5.ext' hR
 have s5_6 : get a6 5 = w32 (x) := t5
 clear hE_5 hN_5 hD_5 s3_5 s10_5 s11_5 s12_5 s13_5 hsx1_5 hsxo_5 hoxo_5
 refine tail_nil ?_
 refine region_lex [] [(16, Pr.ex (xo)), (17, Pr.ex (w32 (x))), (18, Pr.ex (w8 (UInt8.ofNat (x).toNat))), (19, Pr.ex (w32 (x))), (20, Pr.ex (w32 (UInt32.ofNat ((x).toNat / 2 ^ 8)))), (21, Pr.ex (w8 (UInt8.ofNat (UInt32.ofNat ((x).toNat / 2 ^ 8)).toNat))), (22, Pr.ex (w32 (x))), (23, Pr.ex (w32 (UInt32.ofNat ((x).toNat / 2 ^ 16)))), (24, Pr.ex (w8 (UInt8.ofNat (UInt32.ofNat ((x).toNat / 2 ^ 16)).toNat))), (25, Pr.ex (w32 (x))), (26, Pr.ex (w32 (UInt32.ofNat ((x).toNat / 2 ^ 24)))), (27, Pr.ex (w8 (UInt8.ofNat (UInt32.ofNat ((x).toNat / 2 ^ 24)).toNat))), (28, Pr.own' W8 wd6.heap.size 5 ([UInt8.ofNat (x).toNat, UInt8.ofNat (UInt32.ofNat ((x).toNat / 2 ^ 8)).toNat, UInt8.ofNat (UInt32.ofNat ((x).toNat / 2 ^ 16)).toNat, UInt8.ofNat (UInt32.ofNat ((x).toNat / 2 ^ 24)).toNat]))] 13 hN_6 hD_6 (by kernel_rfl) (by kernel_rfl) ?_ ?_
 refine Asks.cons ?_ (Asks.cons ?_ (Asks.cons ?_ (Asks.cons ?_ (Asks.cons ?_ (Asks.cons ?_ (Asks.cons ?_ (Asks.cons ?_ (Asks.cons ?_ (Asks.cons ?_ (Asks.cons ?_ (Asks.cons ?_ (Asks.cons ?_ (Asks.zero _)))))))))))))
 exact Ask.plain rfl rfl fun aq wq hNq hO hR hT => does_move (V := xo) ((hO 3 rfl).trans s3_6) ⟨Ext.refl _, rfl⟩
 exact Ask.plain rfl rfl fun aq wq hNq hO hR hT => does_move (V := w32 (x)) ((hO 5 rfl).trans s5_6) ⟨Ext.refl _, rfl⟩
 exact Ask.plain rfl rfl fun aq wq hNq hO hR hT => does_conv ⟨_, Tryd.underlying22⟩ Tryd.underlying5 (hT 17 rfl rfl) (wrap_u8 _) ⟨Ext.refl _, rfl⟩
 exact Ask.plain rfl rfl fun aq wq hNq hO hR hT => does_move (V := w32 (x)) ((hO 5 rfl).trans s5_6) ⟨Ext.refl _, rfl⟩
 exact Ask.plain rfl rfl fun aq wq hNq hO hR hT => does_shr32 (a := x) (b := 8) (hT 19 rfl rfl) rfl (by decide) ⟨Ext.refl _, rfl⟩
 exact Ask.plain rfl rfl fun aq wq hNq hO hR hT => does_conv ⟨_, Tryd.underlying22⟩ Tryd.underlying5 (hT 20 rfl rfl) (wrap_u8 _) ⟨Ext.refl _, rfl⟩
 exact Ask.plain rfl rfl fun aq wq hNq hO hR hT => does_move (V := w32 (x)) ((hO 5 rfl).trans s5_6) ⟨Ext.refl _, rfl⟩
 exact Ask.plain rfl rfl fun aq wq hNq hO hR hT => does_shr32 (a := x) (b := 16) (hT 22 rfl rfl) rfl (by decide) ⟨Ext.refl _, rfl⟩
 exact Ask.plain rfl rfl fun aq wq hNq hO hR hT => does_conv ⟨_, Tryd.underlying22⟩ Tryd.underlying5 (hT 23 rfl rfl) (wrap_u8 _) ⟨Ext.refl _, rfl⟩
 exact Ask.plain rfl rfl fun aq wq hNq hO hR hT => does_move (V := w32 (x)) ((hO 5 rfl).trans s5_6) ⟨Ext.refl _, rfl⟩
 exact Ask.plain rfl rfl fun aq wq hNq hO hR hT => does_shr32 (a := x) (b := 24) (hT 25 rfl rfl) rfl (by decide) ⟨Ext.refl _, rfl⟩
 exact Ask.plain rfl rfl fun aq wq hNq hO hR hT => does_conv ⟨_, Tryd.underlying22⟩ Tryd.underlying5 (hT 26 rfl rfl) (wrap_u8 _) ⟨Ext.refl _, rfl⟩
 exact Ask.plain rfl rfl fun aq wq hNq hO hR hT => does_sliceN (T := W8) (xs := [UInt8.ofNat (x).toNat, UInt8.ofNat (UInt32.ofNat ((x).toNat / 2 ^ 8)).toNat, UInt8.ofNat (UInt32.ofNat ((x).toNat / 2 ^ 16)).toNat, UInt8.ofNat (UInt32.ofNat ((x).toNat / 2 ^ 24)).toNat]) (vs := [w8 (UInt8.ofNat (x).toNat), w8 (UInt8.ofNat (UInt32.ofNat ((x).toNat / 2 ^ 8)).toNat), w8 (UInt8.ofNat (UInt32.ofNat ((x).toNat / 2 ^ 16)).toNat), w8 (UInt8.ofNat (UInt32.ofNat ((x).toNat / 2 ^ 24)).toNat)]) app_85 rfl (parts4 (hT 18 rfl rfl) (hT 21 rfl rfl) (hT 24 rfl rfl) (hT 27 rfl rfl)) rfl (by decide) (by decide) rfl (fun v w2 he _ ho => ⟨he, OwnT.base ho hR.size'⟩)
 intro a7 wd7 hN_7 hD_7 hO hR hA hU
 obtain ⟨t16, _, _, _, _, _, _, _, _, _, _, _, t28, _⟩ := hA
 have hE_7 := hE_6.trans hR
 have s3_7 := (hO 3 rfl).trans s3_6
 have s10_7 := (hO 10 rfl).trans s10_6
 have s11_7 := (hO 11 rfl).trans s11_6
 have s12_7 := (hO 12 rfl).trans s12_6
 have hsx1_7 := hsx1_6.ext' hR
 have hsxo_7 := hsxo_6.ext' hR
 have hoxo_7 := hoxo_6.ext' hR
 have s16_7 : get a7 16 = xo := t16
 obtain ⟨x28, s28_7⟩ : ∃ x, get a7 28 = x := ⟨_, rfl⟩
 replace t28 : OwnT W8 wd6.heap.size 5 ([UInt8.ofNat (x).toNat, UInt8.ofNat (UInt32.ofNat ((x).toNat / 2 ^ 8)).toNat, UInt8.ofNat (UInt32.ofNat ((x).toNat / 2 ^ 16)).toNat, UInt8.ofNat (UInt32.ofNat ((x).toNat / 2 ^ 24)).toNat]) x28 wd7 := by rw [← s28_7]; exact t28
 have no_x28_xo : ∀ k, x28.ownBlock = some k → xo.ownBlock ≠ some k := fun k e e' => Nat.lt_irrefl _ (Nat.lt_of_lt_of_le (OwnT.block_lt hoxo_6 e').2 (OwnT.block_lt t28 e).1)
 have hsx28_7 := t28.sl.wide (Nat.zero_le _) (.inl rfl)
 have hox28_7 := OwnT.base t28 hE_6.size'
 clear hE_6 hN_6 hD_6 s3_6 s5_6 s10_6 s11_6 s12_6 hsx1_6 hsxo_6 hoxo_6
 refine tail_put rfl rfl hN_7 hD_7 (by decide) (does_append (T := W8) (base := w0.heap.size) (xs := wbytes (l.take k)) (ys := [UInt8.ofNat (x).toNat, UInt8.ofNat (UInt32.ofNat ((x).toNat / 2 ^ 8)).toNat, UInt8.ofNat (UInt32.ofNat ((x).toNat / 2 ^ 16)).toNat, UInt8.ofNat (UInt32.ofNat ((x).toNat / 2 ^ 24)).toNat]) (v := xo) app_85 s16_7 hoxo_7 (SlT.at s28_7 hsx28_7) (by simp) (by simp only [List.length_append, bytes_length, List.length_take, List.length_cons, List.length_nil]; omega) (by simp only [List.length_append, bytes_length, List.length_take, List.length_cons, List.length_nil]; omega) hE_7.size' (fun x29 wd8 hX hox29_8 hk a8 hN_8 hD_8 hv hO => ?_))
 have hE_8 := hE_7.since hX (fun b hb => Nat.le_trans (Nat.le_refl _) (OwnT.block_lt hoxo_7 hb).1)
 have hsx1_8 := SlT.overOwn hsx1_7 hoxo_7 hX
 have hox28_8 := OwnT.ext hox28_7 hX (fun k hk e => no_x28_xo k hk e)
 have no_x29_x28 : ∀ k, x29.ownBlock = some k → x28.ownBlock ≠ some k := fun k e e' => (hk k e).elim (fun h => no_x28_xo k e' h) (fun h => Nat.lt_irrefl _ (Nat.lt_of_lt_of_le (OwnT.block_lt hox28_7 e').2 h))
 have hsx28_8 := hox28_8.sl.wide (Nat.zero_le _) (.inl rfl)
 have hsx29_8 := hox29_8.sl.wide (Nat.zero_le _) (.inl rfl)
 rw [bytes_step hx] at hox29_8 hsx29_8
 have s29_8 := hv
 have s3_8 := (hO 3 rfl).trans s3_7
 have s10_8 := (hO 10 rfl).trans s10_7
 have s11_8 := (hO 11 rfl).trans s11_7
 have s12_8 := (hO 12 rfl).trans s12_7
 clear hO hv hX hk hN_7 hD_7 hE_7 hsx1_7 hox28_7 s3_7 s10_7 s11_7 s12_7 s16_7 s28_7
 refine tail_put rfl rfl hN_8 hD_8 (by decide) (does_assign (V := x29) s29_8 (fun a9 hN_9 hD_9 hv hO => ?_))
 have s3_9 := hv
 have s10_9 := (hO 10 rfl).trans s10_8
 have s11_9 := (hO 11 rfl).trans s11_8
 have s12_9 := (hO 12 rfl).trans s12_8
 clear hO hv hN_8 hD_8 s10_8 s11_8 s12_8 s29_8 s3_8
 refine tail_nil ?_
 refine region_lex [] [(30, Pr.ex (i64 ((k + 1 : Nat) : Int)))] 1 hN_9 hD_9 (by kernel_rfl) (by kernel_rfl) ?_ ?_
 refine Asks.cons ?_ (Asks.zero _)
 exact Ask.plain rfl rfl fun aq wq hNq hO hR hT => does_add (a := ((k : Nat) : Int)) (b := ((1 : Nat) : Int)) (r := ((k + 1 : Nat) : Int)) ((hO 12 rfl).trans s12_9) rfl (by omega) (by omega) (by omega) ⟨Ext.refl _, rfl⟩
 intro a10 wd10 hN_10 hD_10 hO hR hA hU
 obtain ⟨t30, _⟩ := hA
 have hE_10 := hE_8.trans hR
 have s3_10 := (hO 3 rfl).trans s3_9
 have s10_10 := (hO 10 rfl).trans s10_9
 have s11_10 := (hO 11 rfl).trans s11_9
 have s12_10 := (hO 12 rfl).trans s12_9
 have hsx1_10 := hsx1_8.ext' hR
 have hsx28_10 := hsx28_8.ext' hR
 have hsx29_10 := hsx29_8.ext' hR
 have hox28_10 := hox28_8.ext' hR
 have hox29_10 := hox29_8.ext' hR
 have s30_10 : get a10 30 = i64 ((k + 1 : Nat) : Int) := t30
 clear hE_8 hN_9 hD_9 s3_9 s10_9 s11_9 s12_9 hsx1_8 hsx28_8 hsx29_8 hox28_8 hox29_8
 refine tail_put rfl rfl hN_10 hD_10 (by decide) (does_move (V := i64 ((k + 1 : Nat) : Int)) s30_10 (fun a11 hN_11 hD_11 hv hO => ?_))
 have s12_11 := hv
 have s3_11 := (hO 3 rfl).trans s3_10
 have s10_11 := (hO 10 rfl).trans s10_10
 have s11_11 := (hO 11 rfl).trans s11_10
 clear hO hv hN_10 hD_10 s3_10 s10_10 s11_10 s30_10 s12_10
 refine tail_nil ?_
 exact ⟨_, by omega, k + 1, x29, rfl, hN_11, hD_11, s3_11, s10_11, s11_11, s12_11, hE_10, hsx1_10, hox29_10, by omega⟩
 have hc0 := of_decide_eq_false hc0
 have hk2 : l.take k = l := List.take_of_length_le (by omega)
 refine wp_exit ?_
 refine wp_seq ?_
 refine region_lex [] [(31, Pr.ex (xo)), (32, Pr.ex (str (wbytes (l.take k)))), (2, Pr.ex (str (wbytes (l.take k))))] 3 hN_5 hD_5 (by kernel_rfl) (by kernel_rfl) ?_ ?_
 refine Asks.cons ?_ (Asks.cons ?_ (Asks.cons ?_ (Asks.zero _)))
 exact Ask.plain rfl rfl fun aq wq hNq hO hR hT => does_move (V := xo) ((hO 3 rfl).trans s3_5) ⟨Ext.refl _, rfl⟩
 exact Ask.plain rfl rfl fun aq wq hNq hO hR hT => does_string (l := wbytes (l.take k)) Tryd.underlying9 Tryd.underlying85 Tryd.underlying5 (SlT.at (hT 31 rfl rfl) (hsxo_5.ext' hR)) ⟨Ext.refl _, rfl⟩
 exact Ask.plain rfl rfl fun aq wq hNq hO hR hT => does_assign (V := str (wbytes (l.take k))) (hT 32 rfl rfl) ⟨Ext.refl _, rfl⟩
 intro a12 wd12 hN_12 hD_12 hO hR hA hU
 obtain ⟨_, _, t2, _⟩ := hA
 have hE_12 := hE_5.trans hR
 have hsx1_12 := hsx1_5.ext' hR
 have hsxo_12 := hsxo_5.ext' hR
 have hoxo_12 := hoxo_5.ext' hR
 have s2_12 : get a12 2 = str (wbytes (l.take k)) := t2
 clear hE_5 hN_5 hD_5 s3_5 s10_5 s11_5 s12_5 s13_5 hsx1_5 hsxo_5 hoxo_5
 refine tail_nil ?_
 refine wp_ret ?_
 refine res_one (V := str (wbytes (l.take k))) rfl hD_12 s2_12 ?_
 exact ⟨by show str _ = str _; rw [hk2], hE_12⟩

theorem bytesR (l : List UInt32) (x1 : Value) (w0 : World) (hx1 : SlT W32 0 0 l x1 w0) (hn : l.length ≤ 1048576) :
    Gives Tryd.prog 43 #[x1] w0 (Pr.ex (str (wbytes l))) := by
 refine enter (N := 35) Tryd.func43 rfl rfl ?_
 intro a0 hN_0 hD_0 hA
 have s0_0 : get a0 0 = x1 := hA 0 _ rfl
 clear hA
 have hE_0 : Ext w0 w0 := Ext.refl w0
 have hsx1_0 := hx1.close
 refine wp_seq ?_
 refine region_lex [] [(2, Pr.ex (str (([] : List UInt8))))] 1 hN_0 hD_0 (by kernel_rfl) (by kernel_rfl) ?_ ?_
 refine Asks.cons ?_ (Asks.zero _)
 exact Ask.plain rfl rfl fun aq wq hNq hO hR hT => does_assign (V := str (([] : List UInt8))) rfl ⟨Ext.refl _, rfl⟩
 intro a1 wd1 hN_1 hD_1 hO hR hA hU
 obtain ⟨_, _⟩ := hA
 have hE_1 := hE_0.trans hR
 have s0_1 := (hO 0 rfl).trans s0_0
 have hsx1_1 := hsx1_0.ext' hR
 clear hE_0 hN_0 hD_0 s0_0 hsx1_0
 refine tail_nil ?_
 refine wp_seq ?_
 refine region_lex [] [(7, Pr.ex (x1)), (8, Pr.ex (i64 ((l.length : Nat) : Int))), (9, Pr.ex (i64 ((4 * l.length : Nat) : Int))), (10, Pr.own' W8 wd1.heap.size 5 ([])), (3, Pr.own' W8 wd1.heap.size 5 ([]))] 5 hN_1 hD_1 (by kernel_rfl) (by kernel_rfl) ?_ ?_
 refine Asks.cons ?_ (Asks.cons ?_ (Asks.cons ?_ (Asks.cons ?_ (Asks.cons ?_ (Asks.zero _)))))
 exact Ask.plain rfl rfl fun aq wq hNq hO hR hT => does_move (V := x1) ((hO 0 rfl).trans s0_1) ⟨Ext.refl _, rfl⟩
 exact Ask.plain rfl rfl fun aq wq hNq hO hR hT => does_len (T := W32) (xs := l) sli_70 (SlT.at (hT 7 rfl rfl) (hsx1_1.ext' hR)) ⟨Ext.refl _, rfl⟩
 exact Ask.plain rfl rfl fun aq wq hNq hO hR hT => does_mul (a := ((4 : Nat) : Int)) (b := ((l.length : Nat) : Int)) (r := ((4 * l.length : Nat) : Int)) rfl (hT 8 rfl rfl) (by simp) (by omega) (by omega) ⟨Ext.refl _, rfl⟩
 exact Ask.plain rfl rfl fun aq wq hNq hO hR hT => does_make0 (T := W8) (c := 4 * l.length) app_85 rfl rfl (hT 9 rfl rfl) (by omega) (by unfold maxLen; omega) (fun v w2 he _ ho => ⟨he, OwnT.base ho hR.size'⟩)
 exact Ask.plain rfl rfl fun aq wq hNq hO hR hT => does_assign rfl ⟨Ext.refl _, (hT 10 rfl rfl)⟩
 intro a2 wd2 hN_2 hD_2 hO hR hA hU
 obtain ⟨_, _, _, _, t3, _⟩ := hA
 have hE_2 := hE_1.trans hR
 have s0_2 := (hO 0 rfl).trans s0_1
 have hsx1_2 := hsx1_1.ext' hR
 obtain ⟨x3, s3_2⟩ : ∃ x, get a2 3 = x := ⟨_, rfl⟩
 replace t3 : OwnT W8 wd1.heap.size 5 ([]) x3 wd2 := by rw [← s3_2]; exact t3
 have hsx3_2 := t3.sl.wide (Nat.zero_le _) (.inl rfl)
 have hox3_2 := OwnT.base t3 hE_1.size'
 clear hE_1 hN_1 hD_1 s0_1 hsx1_1
 refine tail_nil ?_
 refine wp_seq ?_
 refine wp_seq ?_
 refine region_lex [] [(4, Pr.ex (i64 ((0 : Nat) : Int)))] 1 hN_2 hD_2 (by kernel_rfl) (by kernel_rfl) ?_ ?_
 refine Asks.cons ?_ (Asks.zero _)
 exact Ask.plain rfl rfl fun aq wq hNq hO hR hT => does_assign (V := i64 ((0 : Nat) : Int)) rfl ⟨Ext.refl _, rfl⟩
 intro a3 wd3 hN_3 hD_3 hO hR hA hU
 obtain ⟨t4, _⟩ := hA
 have hE_3 := hE_2.trans hR
 have s0_3 := (hO 0 rfl).trans s0_2
 have s3_3 := (hO 3 rfl).trans s3_2
 have hsx1_3 := hsx1_2.ext' hR
 have hsx3_3 := hsx3_2.ext' hR
 have hox3_3 := hox3_2.ext' hR
 have s4_3 : get a3 4 = i64 ((0 : Nat) : Int) := t4
 clear hE_2 hN_2 hD_2 s0_2 s3_2 hsx1_2 hsx3_2 hox3_2
 refine tail_nil ?_
 refine wp_block ?_
 refine loop_g (fun mz az wz => ∃ k : Nat, ∃ xo : Value, mz = l.length - k ∧ (az.tmps.size = 35) ∧ (az.defers = []) ∧ (get az 0 = x1) ∧ (get az 3 = xo) ∧ (get az 4 = i64 ((k : Nat) : Int)) ∧ (Ext w0 wz) ∧ (SlT W32 0 (w0.heap.size + 1) (l) x1 wz) ∧ (OwnT W8 w0.heap.size 5 (wbytes (l.take k)) xo wz) ∧ (k ≤ l.length)) ?_ ?_
 exact ⟨_, 0, x3, rfl, hN_3, hD_3, s0_3, s3_3, s4_3, hE_3, hsx1_3, hox3_3, Nat.zero_le _⟩
 rintro mz a4 wd4 ⟨k, xo, rfl, hN_4, hD_4, s0_4, s3_4, s4_4, hE_4, hsx1_4, hoxo_4, hk⟩
 have hsxo_4 := hoxo_4.sl.wide (Nat.zero_le _) (.inl rfl)
 refine wp_seq ?_
 refine wp_seq ?_
 refine region_lex [] [(11, Pr.ex (i64 ((k : Nat) : Int))), (12, Pr.ex (x1)), (13, Pr.ex (i64 ((l.length : Nat) : Int))), (14, Pr.ex (Value.bool (decide (((k : Nat) : Int) < ((l.length : Nat) : Int)))))] 4 hN_4 hD_4 (by kernel_rfl) (by kernel_rfl) ?_ ?_
 refine Asks.cons ?_ (Asks.cons ?_ (Asks.cons ?_ (Asks.cons ?_ (Asks.zero _))))
 exact Ask.plain rfl rfl fun aq wq hNq hO hR hT => does_move (V := i64 ((k : Nat) : Int)) ((hO 4 rfl).trans s4_4) ⟨Ext.refl _, rfl⟩
 exact Ask.plain rfl rfl fun aq wq hNq hO hR hT => does_move (V := x1) ((hO 0 rfl).trans s0_4) ⟨Ext.refl _, rfl⟩
 exact Ask.plain rfl rfl fun aq wq hNq hO hR hT => does_len (T := W32) (xs := l) sli_70 (SlT.at (hT 12 rfl rfl) (hsx1_4.ext' hR)) ⟨Ext.refl _, rfl⟩
 exact Ask.plain rfl rfl fun aq wq hNq hO hR hT => does_lss (a := ((k : Nat) : Int)) (b := ((l.length : Nat) : Int)) (hT 11 rfl rfl) (hT 13 rfl rfl) ⟨Ext.refl _, rfl⟩
 intro a5 wd5 hN_5 hD_5 hO hR hA hU
 obtain ⟨_, _, _, t14, _⟩ := hA
 have hE_5 := hE_4.trans hR
 have s0_5 := (hO 0 rfl).trans s0_4
 have s3_5 := (hO 3 rfl).trans s3_4
 have s4_5 := (hO 4 rfl).trans s4_4
 have hsx1_5 := hsx1_4.ext' hR
 have hsxo_5 := hsxo_4.ext' hR
 have hoxo_5 := hoxo_4.ext' hR
 have s14_5 : get a5 14 = Value.bool (decide (((k : Nat) : Int) < ((l.length : Nat) : Int))) := t14
 clear hE_4 hN_4 hD_4 s0_4 s3_4 s4_4 hsx1_4 hsxo_4 hoxo_4
 refine tail_nil ?_
 refine wp_if (B := decide (((k : Nat) : Int) < ((l.length : Nat) : Int))) s14_5 (fun hc0 => ?_) (fun hc0 => ?_)
 have hc0 := of_decide_eq_true hc0
 obtain ⟨x, hx⟩ := get_of_lt (l := l) (k := k) (by omega)
 refine wp_skip ?_
 refine wp_seq ?_
 refine wp_block ?_
 refine wp_seq ?_
 refine region_lex [] [(17, Pr.ex (x1)), (18, Pr.ex (i64 ((k : Nat) : Int))), (19, Pr.pt' 0 (w0.heap.size + 1) [w32 (x)]), (20, Pr.ex (w32 (x))), (5, Pr.ex (w32 (x)))] 5 hN_5 hD_5 (by kernel_rfl) (by kernel_rfl) ?_ ?_
 refine Asks.cons ?_ (Asks.cons ?_ (Asks.cons ?_ (Asks.cons ?_ (Asks.cons ?_ (Asks.zero _)))))
 exact Ask.plain rfl rfl fun aq wq hNq hO hR hT => does_move (V := x1) ((hO 0 rfl).trans s0_5) ⟨Ext.refl _, rfl⟩
 exact Ask.plain rfl rfl fun aq wq hNq hO hR hT => does_move (V := i64 ((k : Nat) : Int)) ((hO 4 rfl).trans s4_5) ⟨Ext.refl _, rfl⟩
 exact Ask.plain rfl rfl fun aq wq hNq hO hR hT => does_indexSl (T := W32) (xs := l) (i := ((k : Nat) : Int)) (X := x) sli_70 rfl (SlT.at (hT 17 rfl rfl) (hsx1_5.ext' hR)) (hT 18 rfl rfl) (by omega) hx (fun v h => ⟨Ext.refl _, h⟩)
 exact Ask.plain rfl rfl fun aq wq hNq hO hR hT => does_loadP1 (V := w32 (x)) (hT 19 rfl rfl) one_22 ⟨Ext.refl _, rfl⟩
 exact Ask.plain rfl rfl fun aq wq hNq hO hR hT => does_assign (V := w32 (x)) (hT 20 rfl rfl) ⟨Ext.refl _, rfl⟩
 intro a6 wd6 hN_6 hD_6 hO hR hA hU
 obtain ⟨_, _, _, _, t5, _⟩ := hA
 have hE_6 := hE_5.trans hR
 have s0_6 := (hO 0 rfl).trans s0_5
 have s3_6 := (hO 3 rfl).trans s3_5
 have s4_6 := (hO 4 rfl).trans s4_5
 have hsx1_6 := hsx1_5.ext' hR
 have hsxo_6 := hsxo_5.ext' hR
 have hoxo_6 := hoxo_5.ext' hR
 have s5_6 : get a6 5 = w32 (x) := t5
 clear hE_5 hN_5 hD_5 s0_5 s3_5 s4_5 s14_5 hsx1_5 hsxo_5 hoxo_5
 refine tail_nil ?_
 refine wp_seq ?_
 refine region_lex [] [(6, Pr.ex (i64 ((0 : Nat) : Int)))] 1 hN_6 hD_6 (by kernel_rfl) (by kernel_rfl) ?_ ?_
 refine Asks.cons ?_ (Asks.zero _)
 exact Ask.plain rfl rfl fun aq wq hNq hO hR hT => does_assign (V := i64 ((0 : Nat) : Int)) rfl ⟨Ext.refl _, rfl⟩
 intro a7 wd7 hN_7 hD_7 hO hR hA hU
 obtain ⟨t6, _⟩ := hA
 have hE_7 := hE_6.trans hR
 have s0_7 := (hO 0 rfl).trans s0_6
 have s3_7 := (hO 3 rfl).trans s3_6
 have s4_7 := (hO 4 rfl).trans s4_6
 have s5_7 := (hO 5 rfl).trans s5_6
 have hsx1_7 := hsx1_6.ext' hR
 have hsxo_7 := hsxo_6.ext' hR
 have hoxo_7 := hoxo_6.ext' hR
 have s6_7 : get a7 6 = i64 ((0 : Nat) : Int) := t6
 clear hE_6 hN_6 hD_6 s0_6 s3_6 s4_6 s5_6 hsx1_6 hsxo_6 hoxo_6
 refine tail_nil ?_
 refine wp_block ?_
 refine loop_rounds 5 ?_
 refine round_step ?_
 refine wp_seq ?_
 refine wp_seq ?_
 refine region_lex [] [(21, Pr.ex (i64 ((0 : Nat) : Int))), (22, Pr.ex (Value.bool (true)))] 2 hN_7 hD_7 (by kernel_rfl) (by kernel_rfl) ?_ ?_
 refine Asks.cons ?_ (Asks.cons ?_ (Asks.zero _))
 exact Ask.plain rfl rfl fun aq wq hNq hO hR hT => does_move (V := i64 ((0 : Nat) : Int)) ((hO 6 rfl).trans s6_7) ⟨Ext.refl _, rfl⟩
 exact Ask.plain rfl rfl fun aq wq hNq hO hR hT => does_lss (a := ((0 : Nat) : Int)) (b := ((4 : Nat) : Int)) (hT 21 rfl rfl) rfl ⟨Ext.refl _, rfl⟩
 intro a8 wd8 hN_8 hD_8 hO hR hA hU
 obtain ⟨_, t22, _⟩ := hA
 have hE_8 := hE_7.trans hR
 have s0_8 := (hO 0 rfl).trans s0_7
 have s3_8 := (hO 3 rfl).trans s3_7
 have s4_8 := (hO 4 rfl).trans s4_7
 have s5_8 := (hO 5 rfl).trans s5_7
 have s6_8 := (hO 6 rfl).trans s6_7
 have hsx1_8 := hsx1_7.ext' hR
 have hsxo_8 := hsxo_7.ext' hR
 have hoxo_8 := hoxo_7.ext' hR
 have s22_8 : get a8 22 = Value.bool (true) := t22
 clear hE_7 hN_7 hD_7 s0_7 s3_7 s4_7 s5_7 s6_7 hsx1_7 hsxo_7 hoxo_7
 refine tail_nil ?_
 refine wp_ifT s22_8 ?_
 refine wp_skip ?_
 refine wp_seq ?_
 refine wp_block ?_
 refine wp_seq ?_
 refine region_lex [] [(25, Pr.ex (xo)), (26, Pr.ex (w32 (x))), (27, Pr.ex (w32 (UInt32.ofNat ((x : UInt32).toNat % (256 : UInt32).toNat)))), (28, Pr.ex (w8 (UInt8.ofNat (UInt32.ofNat ((x : UInt32).toNat % (256 : UInt32).toNat)).toNat))), (29, Pr.own' W8 wd8.heap.size 5 ([UInt8.ofNat (UInt32.ofNat ((x : UInt32).toNat % (256 : UInt32).toNat)).toNat]))] 5 hN_8 hD_8 (by kernel_rfl) (by kernel_rfl) ?_ ?_
 refine Asks.cons ?_ (Asks.cons ?_ (Asks.cons ?_ (Asks.cons ?_ (Asks.cons ?_ (Asks.zero _)))))
 exact Ask.plain rfl rfl fun aq wq hNq hO hR hT => does_move (V := xo) ((hO 3 rfl).trans s3_8) ⟨Ext.refl _, rfl⟩
 exact Ask.plain rfl rfl fun aq wq hNq hO hR hT => does_move (V := w32 (x)) ((hO 5 rfl).trans s5_8) ⟨Ext.refl _, rfl⟩
 exact Ask.plain rfl rfl fun aq wq hNq hO hR hT => does_rem32 (a := (x : UInt32)) (b := (256 : UInt32)) (hT 26 rfl rfl) rfl (by decide) ⟨Ext.refl _, rfl⟩
 exact Ask.plain rfl rfl fun aq wq hNq hO hR hT => does_conv ⟨_, Tryd.underlying22⟩ Tryd.underlying5 (hT 27 rfl rfl) (wrap_u8 _) ⟨Ext.refl _, rfl⟩
 exact Ask.plain rfl rfl fun aq wq hNq hO hR hT => does_slice1 (T := W8) (X := UInt8.ofNat (UInt32.ofNat ((x : UInt32).toNat % (256 : UInt32).toNat)).toNat) (V := w8 (UInt8.ofNat (UInt32.ofNat ((x : UInt32).toNat % (256 : UInt32).toNat)).toNat)) app_85 rfl (by decide) (hT 28 rfl rfl) rfl (fun v w2 he _ ho => ⟨he, OwnT.base ho hR.size'⟩)
 intro a9 wd9 hN_9 hD_9 hO hR hA hU
 obtain ⟨t25, _, _, _, t29, _⟩ := hA
 have hE_9 := hE_8.trans hR
 have s0_9 := (hO 0 rfl).trans s0_8
 have s3_9 := (hO 3 rfl).trans s3_8
 have s4_9 := (hO 4 rfl).trans s4_8
 have s5_9 := (hO 5 rfl).trans s5_8
 have s6_9 := (hO 6 rfl).trans s6_8
 have hsx1_9 := hsx1_8.ext' hR
 have hsxo_9 := hsxo_8.ext' hR
 have hoxo_9 := hoxo_8.ext' hR
 have s25_9 : get a9 25 = xo := t25
 obtain ⟨x29, s29_9⟩ : ∃ x, get a9 29 = x := ⟨_, rfl⟩
 replace t29 : OwnT W8 wd8.heap.size 5 ([UInt8.ofNat (UInt32.ofNat ((x : UInt32).toNat % (256 : UInt32).toNat)).toNat]) x29 wd9 := by rw [← s29_9]; exact t29
 have no_x29_xo : ∀ k, x29.ownBlock = some k → xo.ownBlock ≠ some k := fun k e e' => Nat.lt_irrefl _ (Nat.lt_of_lt_of_le (OwnT.block_lt hoxo_8 e').2 (OwnT.block_lt t29 e).1)
 have hsx29_9 := t29.sl.wide (Nat.zero_le _) (.inl rfl)
 have hox29_9 := OwnT.base t29 hE_8.size'
 clear hE_8 hN_8 hD_8 s0_8 s3_8 s4_8 s5_8 s6_8 s22_8 hsx1_8 hsxo_8 hoxo_8
 refine tail_put rfl rfl hN_9 hD_9 (by decide) (does_append (T := W8) (base := w0.heap.size) (xs := wbytes (l.take k)) (ys := [UInt8.ofNat (UInt32.ofNat ((x : UInt32).toNat % (256 : UInt32).toNat)).toNat]) (v := xo) app_85 s25_9 hoxo_9 (SlT.at s29_9 hsx29_9) (by simp) (by simp only [List.length_append, bytes_length, List.length_take, List.length_cons, List.length_nil]; omega) (by simp only [List.length_append, bytes_length, List.length_take, List.length_cons, List.length_nil]; omega) hE_9.size' (fun x30 wd10 hX hox30_10 hk a10 hN_10 hD_10 hv hO => ?_))
 have hE_10 := hE_9.since hX (fun b hb => Nat.le_trans (Nat.le_refl _) (OwnT.block_lt hoxo_9 hb).1)
 have hsx1_10 := SlT.overOwn hsx1_9 hoxo_9 hX
 have hox29_10 := OwnT.ext hox29_9 hX (fun k hk e => no_x29_xo k hk e)
 have no_x30_x29 : ∀ k, x30.ownBlock = some k → x29.ownBlock ≠ some k := fun k e e' => (hk k e).elim (fun h => no_x29_xo k e' h) (fun h => Nat.lt_irrefl _ (Nat.lt_of_lt_of_le (OwnT.block_lt hox29_9 e').2 h))
 have hsx29_10 := hox29_10.sl.wide (Nat.zero_le _) (.inl rfl)
 have hsx30_10 := hox30_10.sl.wide (Nat.zero_le _) (.inl rfl)
 have s30_10 := hv
 have s0_10 := (hO 0 rfl).trans s0_9
 have s3_10 := (hO 3 rfl).trans s3_9
 have s4_10 := (hO 4 rfl).trans s4_9
 have s5_10 := (hO 5 rfl).trans s5_9
 have s6_10 := (hO 6 rfl).trans s6_9
 clear hO hv hX hk hN_9 hD_9 hE_9 hsx1_9 hox29_9 s0_9 s3_9 s4_9 s5_9 s6_9 s25_9 s29_9
 refine tail_put rfl rfl hN_10 hD_10 (by decide) (does_assign (V := x30) s30_10 (fun a11 hN_11 hD_11 hv hO => ?_))
 have s3_11 := hv
 have s0_11 := (hO 0 rfl).trans s0_10
 have s4_11 := (hO 4 rfl).trans s4_10
 have s5_11 := (hO 5 rfl).trans s5_10
 have s6_11 := (hO 6 rfl).trans s6_10
 clear hO hv hN_10 hD_10 s0_10 s4_10 s5_10 s6_10 s30_10 s3_10
 refine tail_nil ?_
 refine region_lex [] [(31, Pr.ex (w32 (x))), (32, Pr.ex (w32 (UInt32.ofNat ((x : UInt32).toNat / (256 : UInt32).toNat))))] 2 hN_11 hD_11 (by kernel_rfl) (by kernel_rfl) ?_ ?_
 refine Asks.cons ?_ (Asks.cons ?_ (Asks.zero _))
 exact Ask.plain rfl rfl fun aq wq hNq hO hR hT => does_move (V := w32 (x)) ((hO 5 rfl).trans s5_11) ⟨Ext.refl _, rfl⟩
 exact Ask.plain rfl rfl fun aq wq hNq hO hR hT => does_quo32 (a := (x : UInt32)) (b := (256 : UInt32)) (hT 31 rfl rfl) rfl (by decide) ⟨Ext.refl _, rfl⟩
 intro a12 wd12 hN_12 hD_12 hO hR hA hU
 obtain ⟨_, t32, _⟩ := hA
 have hE_12 := hE_10.trans hR
 have s0_12 := (hO 0 rfl).trans s0_11
 have s3_12 := (hO 3 rfl).trans s3_11
 have s4_12 := (hO 4 rfl).trans s4_11
 have s5_12 := (hO 5 rfl).trans s5_11
 have s6_12 := (hO 6 rfl).trans s6_11
 have hsx1_12 := hsx1_10.ext' hR
 have hsx29_12 := hsx29_10.ext' hR
 have hsx30_12 := hsx30_10.ext' hR
 have hox29_12 := hox29_10.ext' hR
 have hox30_12 := hox30_10.ext' hR
 have s32_12 : get a12 32 = w32 (UInt32.ofNat ((x : UInt32).toNat / (256 : UInt32).toNat)) := t32
 clear hE_10 hN_11 hD_11 s0_11 s3_11 s4_11 s5_11 s6_11 hsx1_10 hsx29_10 hsx30_10 hox29_10 hox30_10
 refine tail_put rfl rfl hN_12 hD_12 (by decide) (does_assign (V := w32 (UInt32.ofNat ((x : UInt32).toNat / (256 : UInt32).toNat))) s32_12 (fun a13 hN_13 hD_13 hv hO => ?_))
 have s5_13 := hv
 have s0_13 := (hO 0 rfl).trans s0_12
 have s3_13 := (hO 3 rfl).trans s3_12
 have s4_13 := (hO 4 rfl).trans s4_12
 have s6_13 := (hO 6 rfl).trans s6_12
 clear hO hv hN_12 hD_12 s0_12 s3_12 s4_12 s6_12 s32_12 s5_12
 refine tail_nil ?_
 refine region_lex [] [(23, Pr.ex (i64 ((0 : Nat) : Int))), (24, Pr.ex (i64 ((1 : Nat) : Int)))] 2 hN_13 hD_13 (by kernel_rfl) (by kernel_rfl) ?_ ?_
 refine Asks.cons ?_ (Asks.cons ?_ (Asks.zero _))
 exact Ask.plain rfl rfl fun aq wq hNq hO hR hT => does_move (V := i64 ((0 : Nat) : Int)) ((hO 6 rfl).trans s6_13) ⟨Ext.refl _, rfl⟩
 exact Ask.plain rfl rfl fun aq wq hNq hO hR hT => does_add (a := ((0 : Nat) : Int)) (b := ((1 : Nat) : Int)) (r := ((1 : Nat) : Int)) (hT 23 rfl rfl) rfl (by decide) (by decide) (by decide) ⟨Ext.refl _, rfl⟩
 intro a14 wd14 hN_14 hD_14 hO hR hA hU
 obtain ⟨_, t24, _⟩ := hA
 have hE_14 := hE_12.trans hR
 have s0_14 := (hO 0 rfl).trans s0_13
 have s3_14 := (hO 3 rfl).trans s3_13
 have s4_14 := (hO 4 rfl).trans s4_13
 have s5_14 := (hO 5 rfl).trans s5_13
 have s6_14 := (hO 6 rfl).trans s6_13
 have hsx1_14 := hsx1_12.ext' hR
 have hsx29_14 := hsx29_12.ext' hR
 have hsx30_14 := hsx30_12.ext' hR
 have hox29_14 := hox29_12.ext' hR
 have hox30_14 := hox30_12.ext' hR
 have s24_14 : get a14 24 = i64 ((1 : Nat) : Int) := t24
 clear hE_12 hN_13 hD_13 s0_13 s3_13 s4_13 s5_13 s6_13 hsx1_12 hsx29_12 hsx30_12 hox29_12 hox30_12
 refine tail_put rfl rfl hN_14 hD_14 (by decide) (does_assign (V := i64 ((1 : Nat) : Int)) s24_14 (fun a15 hN_15 hD_15 hv hO => ?_))
 have s6_15 := hv
 have s0_15 := (hO 0 rfl).trans s0_14
 have s3_15 := (hO 3 rfl).trans s3_14
 have s4_15 := (hO 4 rfl).trans s4_14
 have s5_15 := (hO 5 rfl).trans s5_14
 clear hO hv hN_14 hD_14 s0_14 s3_14 s4_14 s5_14 s24_14 s6_14
 refine tail_nil ?_
 refine round_step ?_
 refine wp_seq ?_
 refine wp_seq ?_
 refine region_lex [] [(21, Pr.ex (i64 ((1 : Nat) : Int))), (22, Pr.ex (Value.bool (true)))] 2 hN_15 hD_15 (by kernel_rfl) (by kernel_rfl) ?_ ?_
 refine Asks.cons ?_ (Asks.cons ?_ (Asks.zero _))
 exact Ask.plain rfl rfl fun aq wq hNq hO hR hT => does_move (V := i64 ((1 : Nat) : Int)) ((hO 6 rfl).trans s6_15) ⟨Ext.refl _, rfl⟩
 exact Ask.plain rfl rfl fun aq wq hNq hO hR hT => does_lss (a := ((1 : Nat) : Int)) (b := ((4 : Nat) : Int)) (hT 21 rfl rfl) rfl ⟨Ext.refl _, rfl⟩
 intro a16 wd16 hN_16 hD_16 hO hR hA hU
 obtain ⟨_, t22, _⟩ := hA
 have hE_16 := hE_14.trans hR
 have s0_16 := (hO 0 rfl).trans s0_15
 have s3_16 := (hO 3 rfl).trans s3_15
 have s4_16 := (hO 4 rfl).trans s4_15
 have s5_16 := (hO 5 rfl).trans s5_15
 have s6_16 := (hO 6 rfl).trans s6_15
 have hsx1_16 := hsx1_14.ext' hR
 have hsx29_16 := hsx29_14.ext' hR
 have hsx30_16 := hsx30_14.ext' hR
 have hox29_16 := hox29_14.ext' hR
 have hox30_16 := hox30_14.ext' hR
 have s22_16 : get a16 22 = Value.bool (true) := t22
 clear hE_14 hN_15 hD_15 s0_15 s3_15 s4_15 s5_15 s6_15 hsx1_14 hsx29_14 hsx30_14 hox29_14 hox30_14
 refine tail_nil ?_
 refine wp_ifT s22_16 ?_
 refine wp_skip ?_
 refine wp_seq ?_
 refine wp_block ?_
 refine wp_seq ?_
 refine region_lex [] [(25, Pr.ex (x30)), (26, Pr.ex (w32 (UInt32.ofNat ((x : UInt32).toNat / (256 : UInt32).toNat)))), (27, Pr.ex (w32 (UInt32.ofNat ((UInt32.ofNat ((x : UInt32).toNat / (256 : UInt32).toNat) : UInt32).toNat % (256 : UInt32).toNat)))), (28, Pr.ex (w8 (UInt8.ofNat (UInt32.ofNat ((UInt32.ofNat ((x : UInt32).toNat / (256 : UInt32).toNat) : UInt32).toNat % (256 : UInt32).toNat)).toNat))), (29, Pr.own' W8 wd16.heap.size 5 ([UInt8.ofNat (UInt32.ofNat ((UInt32.ofNat ((x : UInt32).toNat / (256 : UInt32).toNat) : UInt32).toNat % (256 : UInt32).toNat)).toNat]))] 5 hN_16 hD_16 (by kernel_rfl) (by kernel_rfl) ?_ ?_
 refine Asks.cons ?_ (Asks.cons ?_ (Asks.cons ?_ (Asks.cons ?_ (Asks.cons ?_ (Asks.zero _)))))
 exact Ask.plain rfl rfl fun aq wq hNq hO hR hT => does_move (V := x30) ((hO 3 rfl).trans s3_16) ⟨Ext.refl _, rfl⟩
 exact Ask.plain rfl rfl fun aq wq hNq hO hR hT => does_move (V := w32 (UInt32.ofNat ((x : UInt32).toNat / (256 : UInt32).toNat))) ((hO 5 rfl).trans s5_16) ⟨Ext.refl _, rfl⟩
 exact Ask.plain rfl rfl fun aq wq hNq hO hR hT => does_rem32 (a := (UInt32.ofNat ((x : UInt32).toNat / (256 : UInt32).toNat) : UInt32)) (b := (256 : UInt32)) (hT 26 rfl rfl) rfl (by decide) ⟨Ext.refl _, rfl⟩
 exact Ask.plain rfl rfl fun aq wq hNq hO hR hT => does_conv ⟨_, Tryd.underlying22⟩ Tryd.underlying5 (hT 27 rfl rfl) (wrap_u8 _) ⟨Ext.refl _, rfl⟩
 exact Ask.plain rfl rfl fun aq wq hNq hO hR hT => does_slice1 (T := W8) (X := UInt8.ofNat (UInt32.ofNat ((UInt32.ofNat ((x : UInt32).toNat / (256 : UInt32).toNat) : UInt32).toNat % (256 : UInt32).toNat)).toNat) (V := w8 (UInt8.ofNat (UInt32.ofNat ((UInt32.ofNat ((x : UInt32).toNat / (256 : UInt32).toNat) : UInt32).toNat % (256 : UInt32).toNat)).toNat)) app_85 rfl (by decide) (hT 28 rfl rfl) rfl (fun v w2 he _ ho => ⟨he, OwnT.base ho hR.size'⟩)
 intro a17 wd17 hN_17 hD_17 hO hR hA hU
 obtain ⟨t25, _, _, _, t29, _⟩ := hA
 have hE_17 := hE_16.trans hR
 have s0_17 := (hO 0 rfl).trans s0_16
 have s3_17 := (hO 3 rfl).trans s3_16
 have s4_17 := (hO 4 rfl).trans s4_16
 have s5_17 := (hO 5 rfl).trans s5_16
 have s6_17 := (hO 6 rfl).trans s6_16
 have hsx1_17 := hsx1_16.ext' hR
 have hsx29_17 := hsx29_16.ext' hR
 have hsx30_17 := hsx30_16.ext' hR
 have hox29_17 := hox29_16.ext' hR
 have hox30_17 := hox30_16.ext' hR
 have s25_17 : get a17 25 = x30 := t25
 obtain ⟨x29_1, s29_17⟩ : ∃ x, get a17 29 = x := ⟨_, rfl⟩
 replace t29 : OwnT W8 wd16.heap.size 5 ([UInt8.ofNat (UInt32.ofNat ((UInt32.ofNat ((x : UInt32).toNat / (256 : UInt32).toNat) : UInt32).toNat % (256 : UInt32).toNat)).toNat]) x29_1 wd17 := by rw [← s29_17]; exact t29
 have no_x29_1_x29 : ∀ k, x29_1.ownBlock = some k → x29.ownBlock ≠ some k := fun k e e' => Nat.lt_irrefl _ (Nat.lt_of_lt_of_le (OwnT.block_lt hox29_16 e').2 (OwnT.block_lt t29 e).1)
 have no_x29_1_x30 : ∀ k, x29_1.ownBlock = some k → x30.ownBlock ≠ some k := fun k e e' => Nat.lt_irrefl _ (Nat.lt_of_lt_of_le (OwnT.block_lt hox30_16 e').2 (OwnT.block_lt t29 e).1)
 have hsx29_1_17 := t29.sl.wide (Nat.zero_le _) (.inl rfl)
 have hox29_1_17 := OwnT.base t29 hE_16.size'
 clear hE_16 hN_16 hD_16 s0_16 s3_16 s4_16 s5_16 s6_16 s22_16 hsx1_16 hsx29_16 hsx30_16 hox29_16 hox30_16
 refine tail_put rfl rfl hN_17 hD_17 (by decide) (does_append (T := W8) (base := w0.heap.size) (xs := (wbytes (l.take k)) ++ [UInt8.ofNat (UInt32.ofNat ((x : UInt32).toNat % (256 : UInt32).toNat)).toNat]) (ys := [UInt8.ofNat (UInt32.ofNat ((UInt32.ofNat ((x : UInt32).toNat / (256 : UInt32).toNat) : UInt32).toNat % (256 : UInt32).toNat)).toNat]) (v := x30) app_85 s25_17 hox30_17 (SlT.at s29_17 hsx29_1_17) (by simp) (by simp only [List.length_append, bytes_length, List.length_take, List.length_cons, List.length_nil]; omega) (by simp only [List.length_append, bytes_length, List.length_take, List.length_cons, List.length_nil]; omega) hE_17.size' (fun x30_1 wd18 hX hox30_1_18 hk a18 hN_18 hD_18 hv hO => ?_))
 have hE_18 := hE_17.since hX (fun b hb => Nat.le_trans (Nat.le_refl _) (OwnT.block_lt hox30_17 hb).1)
 have hsx1_18 := SlT.overOwn hsx1_17 hox30_17 hX
 have hox29_18 := OwnT.ext hox29_17 hX (fun k hk e => no_x30_x29 k e hk)
 have no_x30_1_x29 : ∀ k, x30_1.ownBlock = some k → x29.ownBlock ≠ some k := fun k e e' => (hk k e).elim (fun h => no_x30_x29 k h e') (fun h => Nat.lt_irrefl _ (Nat.lt_of_lt_of_le (OwnT.block_lt hox29_17 e').2 h))
 have hsx29_18 := hox29_18.sl.wide (Nat.zero_le _) (.inl rfl)
 have hox29_1_18 := OwnT.ext hox29_1_17 hX (fun k hk e => no_x29_1_x30 k hk e)
 have no_x30_1_x29_1 : ∀ k, x30_1.ownBlock = some k → x29_1.ownBlock ≠ some k := fun k e e' => (hk k e).elim (fun h => no_x29_1_x30 k e' h) (fun h => Nat.lt_irrefl _ (Nat.lt_of_lt_of_le (OwnT.block_lt hox29_1_17 e').2 h))
 have hsx29_1_18 := hox29_1_18.sl.wide (Nat.zero_le _) (.inl rfl)
 have hsx30_1_18 := hox30_1_18.sl.wide (Nat.zero_le _) (.inl rfl)
 have s30_18 := hv
 have s0_18 := (hO 0 rfl).trans s0_17
 have s3_18 := (hO 3 rfl).trans s3_17
 have s4_18 := (hO 4 rfl).trans s4_17
 have s5_18 := (hO 5 rfl).trans s5_17
 have s6_18 := (hO 6 rfl).trans s6_17
 clear hO hv hX hk hN_17 hD_17 hE_17 hsx1_17 hox29_17 hox29_1_17 s0_17 s3_17 s4_17 s5_17 s6_17 s25_17 s29_17
 refine tail_put rfl rfl hN_18 hD_18 (by decide) (does_assign (V := x30_1) s30_18 (fun a19 hN_19 hD_19 hv hO => ?_))
 have s3_19 := hv
 have s0_19 := (hO 0 rfl).trans s0_18
 have s4_19 := (hO 4 rfl).trans s4_18
 have s5_19 := (hO 5 rfl).trans s5_18
 have s6_19 := (hO 6 rfl).trans s6_18
 clear hO hv hN_18 hD_18 s0_18 s4_18 s5_18 s6_18 s30_18 s3_18
 refine tail_nil ?_
 refine region_lex [] [(31, Pr.ex (w32 (UInt32.ofNat ((x : UInt32).toNat / (256 : UInt32).toNat)))), (32, Pr.ex (w32 (UInt32.ofNat ((UInt32.ofNat ((x : UInt32).toNat / (256 : UInt32).toNat) : UInt32).toNat / (256 : UInt32).toNat))))] 2 hN_19 hD_19 (by kernel_rfl) (by kernel_rfl) ?_ ?_
 refine Asks.cons ?_ (Asks.cons ?_ (Asks.zero _))
 exact Ask.plain rfl rfl fun aq wq hNq hO hR hT => does_move (V := w32 (UInt32.ofNat ((x : UInt32).toNat / (256 : UInt32).toNat))) ((hO 5 rfl).trans s5_19) ⟨Ext.refl _, rfl⟩
 exact Ask.plain rfl rfl fun aq wq hNq hO hR hT => does_quo32 (a := (UInt32.ofNat ((x : UInt32).toNat / (256 : UInt32).toNat) : UInt32)) (b := (256 : UInt32)) (hT 31 rfl rfl) rfl (by decide) ⟨Ext.refl _, rfl⟩
 intro a20 wd20 hN_20 hD_20 hO hR hA hU
 obtain ⟨_, t32, _⟩ := hA
 have hE_20 := hE_18.trans hR
 have s0_20 := (hO 0 rfl).trans s0_19
 have s3_20 := (hO 3 rfl).trans s3_19
 have s4_20 := (hO 4 rfl).trans s4_19
 have s5_20 := (hO 5 rfl).trans s5_19
 have s6_20 := (hO 6 rfl).trans s6_19
 have hsx1_20 := hsx1_18.ext' hR
 have hsx29_20 := hsx29_18.ext' hR
 have hsx29_1_20 := hsx29_1_18.ext' hR
 have hsx30_1_20 := hsx30_1_18.ext' hR
 have hox29_20 := hox29_18.ext' hR
 have hox29_1_20 := hox29_1_18.ext' hR
 have hox30_1_20 := hox30_1_18.ext' hR
 have s32_20 : get a20 32 = w32 (UInt32.ofNat ((UInt32.ofNat ((x : UInt32).toNat / (256 : UInt32).toNat) : UInt32).toNat / (256 : UInt32).toNat)) := t32
 clear hE_18 hN_19 hD_19 s0_19 s3_19 s4_19 s5_19 s6_19 hsx1_18 hsx29_18 hsx29_1_18 hsx30_1_18 hox29_18 hox29_1_18 hox30_1_18
 refine tail_put rfl rfl hN_20 hD_20 (by decide) (does_assign (V := w32 (UInt32.ofNat ((UInt32.ofNat ((x : UInt32).toNat / (256 : UInt32).toNat) : UInt32).toNat / (256 : UInt32).toNat))) s32_20 (fun a21 hN_21 hD_21 hv hO => ?_))
 have s5_21 := hv
 have s0_21 := (hO 0 rfl).trans s0_20
 have s3_21 := (hO 3 rfl).trans s3_20
 have s4_21 := (hO 4 rfl).trans s4_20
 have s6_21 := (hO 6 rfl).trans s6_20
 clear hO hv hN_20 hD_20 s0_20 s3_20 s4_20 s6_20 s32_20 s5_20
 refine tail_nil ?_
 refine region_lex [] [(23, Pr.ex (i64 ((1 : Nat) : Int))), (24, Pr.ex (i64 ((2 : Nat) : Int)))] 2 hN_21 hD_21 (by kernel_rfl) (by kernel_rfl) ?_ ?_
 refine Asks.cons ?_ (Asks.cons ?_ (Asks.zero _))
 exact Ask.plain rfl rfl fun aq wq hNq hO hR hT => does_move (V := i64 ((1 : Nat) : Int)) ((hO 6 rfl).trans s6_21) ⟨Ext.refl _, rfl⟩
 exact Ask.plain rfl rfl fun aq wq hNq hO hR hT => does_add (a := ((1 : Nat) : Int)) (b := ((1 : Nat) : Int)) (r := ((2 : Nat) : Int)) (hT 23 rfl rfl) rfl (by decide) (by decide) (by decide) ⟨Ext.refl _, rfl⟩
 intro a22 wd22 hN_22 hD_22 hO hR hA hU
 obtain ⟨_, t24, _⟩ := hA
 have hE_22 := hE_20.trans hR
 have s0_22 := (hO 0 rfl).trans s0_21
 have s3_22 := (hO 3 rfl).trans s3_21
 have s4_22 := (hO 4 rfl).trans s4_21
 have s5_22 := (hO 5 rfl).trans s5_21
 have s6_22 := (hO 6 rfl).trans s6_21
 have hsx1_22 := hsx1_20.ext' hR
 have hsx29_22 := hsx29_20.ext' hR
 have hsx29_1_22 := hsx29_1_20.ext' hR
 have hsx30_1_22 := hsx30_1_20.ext' hR
 have hox29_22 := hox29_20.ext' hR
 have hox29_1_22 := hox29_1_20.ext' hR
 have hox30_1_22 := hox30_1_20.ext' hR
 have s24_22 : get a22 24 = i64 ((2 : Nat) : Int) := t24
 clear hE_20 hN_21 hD_21 s0_21 s3_21 s4_21 s5_21 s6_21 hsx1_20 hsx29_20 hsx29_1_20 hsx30_1_20 hox29_20 hox29_1_20 hox30_1_20
 refine tail_put rfl rfl hN_22 hD_22 (by decide) (does_assign (V := i64 ((2 : Nat) : Int)) s24_22 (fun a23 hN_23 hD_23 hv hO => ?_))
 have s6_23 := hv
 have s0_23 := (hO 0 rfl).trans s0_22
 have s3_23 := (hO 3 rfl).trans s3_22
 have s4_23 := (hO 4 rfl).trans s4_22
 have s5_23 := (hO 5 rfl).trans s5_22
 clear hO hv hN_22 hD_22 s0_22 s3_22 s4_22 s5_22 s24_22 s6_22
 refine tail_nil ?_
 refine round_step ?_
 refine wp_seq ?_
 refine wp_seq ?_
 refine region_lex [] [(21, Pr.ex (i64 ((2 : Nat) : Int))), (22, Pr.ex (Value.bool (true)))] 2 hN_23 hD_23 (by kernel_rfl) (by kernel_rfl) ?_ ?_
 refine Asks.cons ?_ (Asks.cons ?_ (Asks.zero _))
 exact Ask.plain rfl rfl fun aq wq hNq hO hR hT => does_move (V := i64 ((2 : Nat) : Int)) ((hO 6 rfl).trans s6_23) ⟨Ext.refl _, rfl⟩
 exact Ask.plain rfl rfl fun aq wq hNq hO hR hT => does_lss (a := ((2 : Nat) : Int)) (b := ((4 : Nat) : Int)) (hT 21 rfl rfl) rfl ⟨Ext.refl _, rfl⟩
 intro a24 wd24 hN_24 hD_24 hO hR hA hU
 obtain ⟨_, t22, _⟩ := hA
 have hE_24 := hE_22.trans hR
 have s0_24 := (hO 0 rfl).trans s0_23
 have s3_24 := (hO 3 rfl).trans s3_23
 have s4_24 := (hO 4 rfl).trans s4_23
 have s5_24 := (hO 5 rfl).trans s5_23
 have s6_24 := (hO 6 rfl).trans s6_23
 have hsx1_24 := hsx1_22.ext' hR
 have hsx29_24 := hsx29_22.ext' hR
 have hsx29_1_24 := hsx29_1_22.ext' hR
 have hsx30_1_24 := hsx30_1_22.ext' hR
 have hox29_24 := hox29_22.ext' hR
 have hox29_1_24 := hox29_1_22.ext' hR
 have hox30_1_24 := hox30_1_22.ext' hR
 have s22_24 : get a24 22 = Value.bool (true) := t22
 clear hE_22 hN_23 hD_23 s0_23 s3_23 s4_23 s5_23 s6_23 hsx1_22 hsx29_22 hsx29_1_22 hsx30_1_22 hox29_22 hox29_1_22 hox30_1_22
 refine tail_nil ?_
 refine wp_ifT s22_24 ?_
 refine wp_skip ?_
 refine wp_seq ?_
 refine wp_block ?_
 refine wp_seq ?_
 refine region_lex [] [(25, Pr.ex (x30_1)), (26, Pr.ex (w32 (UInt32.ofNat ((UInt32.ofNat ((x : UInt32).toNat / (256 : UInt32).toNat) : UInt32).toNat / (256 : UInt32).toNat)))), (27, Pr.ex (w32 (UInt32.ofNat ((UInt32.ofNat ((UInt32.ofNat ((x : UInt32).toNat / (256 : UInt32).toNat) : UInt32).toNat / (256 : UInt32).toNat) : UInt32).toNat % (256 : UInt32).toNat)))), (28, Pr.ex (w8 (UInt8.ofNat (UInt32.ofNat ((UInt32.ofNat ((UInt32.ofNat ((x : UInt32).toNat / (256 : UInt32).toNat) : UInt32).toNat / (256 : UInt32).toNat) : UInt32).toNat % (256 : UInt32).toNat)).toNat))), (29, Pr.own' W8 wd24.heap.size 5 ([UInt8.ofNat (UInt32.ofNat ((UInt32.ofNat ((UInt32.ofNat ((x : UInt32).toNat / (256 : UInt32).toNat) : UInt32).toNat / (256 : UInt32).toNat) : UInt32).toNat % (256 : UInt32).toNat)).toNat]))] 5 hN_24 hD_24 (by kernel_rfl) (by kernel_rfl) ?_ ?_
 refine Asks.cons ?_ (Asks.cons ?_ (Asks.cons ?_ (Asks.cons ?_ (Asks.cons ?_ (Asks.zero _)))))
 exact Ask.plain rfl rfl fun aq wq hNq hO hR hT => does_move (V := x30_1) ((hO 3 rfl).trans s3_24) ⟨Ext.refl _, rfl⟩
 exact Ask.plain rfl rfl fun aq wq hNq hO hR hT => does_move (V := w32 (UInt32.ofNat ((UInt32.ofNat ((x : UInt32).toNat / (256 : UInt32).toNat) : UInt32).toNat / (256 : UInt32).toNat))) ((hO 5 rfl).trans s5_24) ⟨Ext.refl _, rfl⟩
 exact Ask.plain rfl rfl fun aq wq hNq hO hR hT => does_rem32 (a := (UInt32.ofNat ((UInt32.ofNat ((x : UInt32).toNat / (256 : UInt32).toNat) : UInt32).toNat / (256 : UInt32).toNat) : UInt32)) (b := (256 : UInt32)) (hT 26 rfl rfl) rfl (by decide) ⟨Ext.refl _, rfl⟩
 exact Ask.plain rfl rfl fun aq wq hNq hO hR hT => does_conv ⟨_, Tryd.underlying22⟩ Tryd.underlying5 (hT 27 rfl rfl) (wrap_u8 _) ⟨Ext.refl _, rfl⟩
 exact Ask.plain rfl rfl fun aq wq hNq hO hR hT => does_slice1 (T := W8) (X := UInt8.ofNat (UInt32.ofNat ((UInt32.ofNat ((UInt32.ofNat ((x : UInt32).toNat / (256 : UInt32).toNat) : UInt32).toNat / (256 : UInt32).toNat) : UInt32).toNat % (256 : UInt32).toNat)).toNat) (V := w8 (UInt8.ofNat (UInt32.ofNat ((UInt32.ofNat ((UInt32.ofNat ((x : UInt32).toNat / (256 : UInt32).toNat) : UInt32).toNat / (256 : UInt32).toNat) : UInt32).toNat % (256 : UInt32).toNat)).toNat)) app_85 rfl (by decide) (hT 28 rfl rfl) rfl (fun v w2 he _ ho => ⟨he, OwnT.base ho hR.size'⟩)
 intro a25 wd25 hN_25 hD_25 hO hR hA hU
 obtain ⟨t25, _, _, _, t29, _⟩ := hA
 have hE_25 := hE_24.trans hR
 have s0_25 := (hO 0 rfl).trans s0_24
 have s3_25 := (hO 3 rfl).trans s3_24
 have s4_25 := (hO 4 rfl).trans s4_24
 have s5_25 := (hO 5 rfl).trans s5_24
 have s6_25 := (hO 6 rfl).trans s6_24
 have hsx1_25 := hsx1_24.ext' hR
 have hsx29_25 := hsx29_24.ext' hR
 have hsx29_1_25 := hsx29_1_24.ext' hR
 have hsx30_1_25 := hsx30_1_24.ext' hR
 have hox29_25 := hox29_24.ext' hR
 have hox29_1_25 := hox29_1_24.ext' hR
 have hox30_1_25 := hox30_1_24.ext' hR
 have s25_25 : get a25 25 = x30_1 := t25
 obtain ⟨x29_2, s29_25⟩ : ∃ x, get a25 29 = x := ⟨_, rfl⟩
 replace t29 : OwnT W8 wd24.heap.size 5 ([UInt8.ofNat (UInt32.ofNat ((UInt32.ofNat ((UInt32.ofNat ((x : UInt32).toNat / (256 : UInt32).toNat) : UInt32).toNat / (256 : UInt32).toNat) : UInt32).toNat % (256 : UInt32).toNat)).toNat]) x29_2 wd25 := by rw [← s29_25]; exact t29
 have no_x29_2_x29 : ∀ k, x29_2.ownBlock = some k → x29.ownBlock ≠ some k := fun k e e' => Nat.lt_irrefl _ (Nat.lt_of_lt_of_le (OwnT.block_lt hox29_24 e').2 (OwnT.block_lt t29 e).1)
 have no_x29_2_x29_1 : ∀ k, x29_2.ownBlock = some k → x29_1.ownBlock ≠ some k := fun k e e' => Nat.lt_irrefl _ (Nat.lt_of_lt_of_le (OwnT.block_lt hox29_1_24 e').2 (OwnT.block_lt t29 e).1)
 have no_x29_2_x30_1 : ∀ k, x29_2.ownBlock = some k → x30_1.ownBlock ≠ some k := fun k e e' => Nat.lt_irrefl _ (Nat.lt_of_lt_of_le (OwnT.block_lt hox30_1_24 e').2 (OwnT.block_lt t29 e).1)
 have hsx29_2_25 := t29.sl.wide (Nat.zero_le _) (.inl rfl)
 have hox29_2_25 := OwnT.base t29 hE_24.size'
 clear hE_24 hN_24 hD_24 s0_24 s3_24 s4_24 s5_24 s6_24 s22_24 hsx1_24 hsx29_24 hsx29_1_24 hsx30_1_24 hox29_24 hox29_1_24 hox30_1_24
 refine tail_put rfl rfl hN_25 hD_25 (by decide) (does_append (T := W8) (base := w0.heap.size) (xs := ((wbytes (l.take k)) ++ [UInt8.ofNat (UInt32.ofNat ((x : UInt32).toNat % (256 : UInt32).toNat)).toNat]) ++ [UInt8.ofNat (UInt32.ofNat ((UInt32.ofNat ((x : UInt32).toNat / (256 : UInt32).toNat) : UInt32).toNat % (256 : UInt32).toNat)).toNat]) (ys := [UInt8.ofNat (UInt32.ofNat ((UInt32.ofNat ((UInt32.ofNat ((x : UInt32).toNat / (256 : UInt32).toNat) : UInt32).toNat / (256 : UInt32).toNat) : UInt32).toNat % (256 : UInt32).toNat)).toNat]) (v := x30_1) app_85 s25_25 hox30_1_25 (SlT.at s29_25 hsx29_2_25) (by simp) (by simp only [List.length_append, bytes_length, List.length_take, List.length_cons, List.length_nil]; omega) (by simp only [List.length_append, bytes_length, List.length_take, List.length_cons, List.length_nil]; omega) hE_25.size' (fun x30_2 wd26 hX hox30_2_26 hk a26 hN_26 hD_26 hv hO => ?_))
 have hE_26 := hE_25.since hX (fun b hb => Nat.le_trans (Nat.le_refl _) (OwnT.block_lt hox30_1_25 hb).1)
 have hsx1_26 := SlT.overOwn hsx1_25 hox30_1_25 hX
 have hox29_26 := OwnT.ext hox29_25 hX (fun k hk e => no_x30_1_x29 k e hk)
 have no_x30_2_x29 : ∀ k, x30_2.ownBlock = some k → x29.ownBlock ≠ some k := fun k e e' => (hk k e).elim (fun h => no_x30_1_x29 k h e') (fun h => Nat.lt_irrefl _ (Nat.lt_of_lt_of_le (OwnT.block_lt hox29_25 e').2 h))
 have hsx29_26 := hox29_26.sl.wide (Nat.zero_le _) (.inl rfl)
 have hox29_1_26 := OwnT.ext hox29_1_25 hX (fun k hk e => no_x30_1_x29_1 k e hk)
 have no_x30_2_x29_1 : ∀ k, x30_2.ownBlock = some k → x29_1.ownBlock ≠ some k := fun k e e' => (hk k e).elim (fun h => no_x30_1_x29_1 k h e') (fun h => Nat.lt_irrefl _ (Nat.lt_of_lt_of_le (OwnT.block_lt hox29_1_25 e').2 h))
 have hsx29_1_26 := hox29_1_26.sl.wide (Nat.zero_le _) (.inl rfl)
 have hox29_2_26 := OwnT.ext hox29_2_25 hX (fun k hk e => no_x29_2_x30_1 k hk e)
 have no_x30_2_x29_2 : ∀ k, x30_2.ownBlock = some k → x29_2.ownBlock ≠ some k := fun k e e' => (hk k e).elim (fun h => no_x29_2_x30_1 k e' h) (fun h => Nat.lt_irrefl _ (Nat.lt_of_lt_of_le (OwnT.block_lt hox29_2_25 e').2 h))
 have hsx29_2_26 := hox29_2_26.sl.wide (Nat.zero_le _) (.inl rfl)
 have hsx30_2_26 := hox30_2_26.sl.wide (Nat.zero_le _) (.inl rfl)
 have s30_26 := hv
 have s0_26 := (hO 0 rfl).trans s0_25
 have s3_26 := (hO 3 rfl).trans s3_25
 have s4_26 := (hO 4 rfl).trans s4_25
 have s5_26 := (hO 5 rfl).trans s5_25
 have s6_26 := (hO 6 rfl).trans s6_25
 clear hO hv hX hk hN_25 hD_25 hE_25 hsx1_25 hox29_25 hox29_1_25 hox29_2_25 s0_25 s3_25 s4_25 s5_25 s6_25 s25_25 s29_25
 refine tail_put rfl rfl hN_26 hD_26 (by decide) (does_assign (V := x30_2) s30_26 (fun a27 hN_27 hD_27 hv hO => ?_))
 have s3_27 := hv
 have s0_27 := (hO 0 rfl).trans s0_26
 have s4_27 := (hO 4 rfl).trans s4_26
 have s5_27 := (hO 5 rfl).trans s5_26
 have s6_27 := (hO 6 rfl).trans s6_26
 clear hO hv hN_26 hD_26 s0_26 s4_26 s5_26 s6_26 s30_26 s3_26
 refine tail_nil ?_
 refine region_lex [] [(31, Pr.ex (w32 (UInt32.ofNat ((UInt32.ofNat ((x : UInt32).toNat / (256 : UInt32).toNat) : UInt32).toNat / (256 : UInt32).toNat)))), (32, Pr.ex (w32 (UInt32.ofNat ((UInt32.ofNat ((UInt32.ofNat ((x : UInt32).toNat / (256 : UInt32).toNat) : UInt32).toNat / (256 : UInt32).toNat) : UInt32).toNat / (256 : UInt32).toNat))))] 2 hN_27 hD_27 (by kernel_rfl) (by kernel_rfl) ?_ ?_
 refine Asks.cons ?_ (Asks.cons ?_ (Asks.zero _))
 exact Ask.plain rfl rfl fun aq wq hNq hO hR hT => does_move (V := w32 (UInt32.ofNat ((UInt32.ofNat ((x : UInt32).toNat / (256 : UInt32).toNat) : UInt32).toNat / (256 : UInt32).toNat))) ((hO 5 rfl).trans s5_27) ⟨Ext.refl _, rfl⟩
 exact Ask.plain rfl rfl fun aq wq hNq hO hR hT => does_quo32 (a := (UInt32.ofNat ((UInt32.ofNat ((x : UInt32).toNat / (256 : UInt32).toNat) : UInt32).toNat / (256 : UInt32).toNat) : UInt32)) (b := (256 : UInt32)) (hT 31 rfl rfl) rfl (by decide) ⟨Ext.refl _, rfl⟩
 intro a28 wd28 hN_28 hD_28 hO hR hA hU
 obtain ⟨_, t32, _⟩ := hA
 have hE_28 := hE_26.trans hR
 have s0_28 := (hO 0 rfl).trans s0_27
 have s3_28 := (hO 3 rfl).trans s3_27
 have s4_28 := (hO 4 rfl).trans s4_27
 have s5_28 := (hO 5 rfl).trans s5_27
 have s6_28 := (hO 6 rfl).trans s6_27
 have hsx1_28 := hsx1_26.ext' hR
 have hsx29_28 := hsx29_26.ext' hR
 have hsx29_1_28 := hsx29_1_26.ext' hR
 have hsx29_2_28 := hsx29_2_26.ext' hR
 have hsx30_2_28 := hsx30_2_26.ext' hR
 have hox29_28 := hox29_26.ext' hR
 have hox29_1_28 := hox29_1_26.ext' hR
 have hox29_2_28 := hox29_2_26.ext' hR
 have hox30_2_28 := hox30_2_26.ext' hR
 have s32_28 : get a28 32 = w32 (UInt32.ofNat ((UInt32.ofNat ((UInt32.ofNat ((x : UInt32).toNat / (256 : UInt32).toNat) : UInt32).toNat / (256 : UInt32).toNat) : UInt32).toNat / (256 : UInt32).toNat)) := t32
 clear hE_26 hN_27 hD_27 s0_27 s3_27 s4_27 s5_27 s6_27 hsx1_26 hsx29_26 hsx29_1_26 hsx29_2_26 hsx30_2_26 hox29_26 hox29_1_26 hox29_2_26 hox30_2_26
 refine tail_put rfl rfl hN_28 hD_28 (by decide) (does_assign (V := w32 (UInt32.ofNat ((UInt32.ofNat ((UInt32.ofNat ((x : UInt32).toNat / (256 : UInt32).toNat) : UInt32).toNat / (256 : UInt32).toNat) : UInt32).toNat / (256 : UInt32).toNat))) s32_28 (fun a29 hN_29 hD_29 hv hO => ?_))
 have s5_29 := hv
 have s0_29 := (hO 0 rfl).trans s0_28
 have s3_29 := (hO 3 rfl).trans s3_28
 have s4_29 := (hO 4 rfl).trans s4_28
 have s6_29 := (hO 6 rfl).trans s6_28
 clear hO hv hN_28 hD_28 s0_28 s3_28 s4_28 s6_28 s32_28 s5_28
 refine tail_nil ?_
 refine region_lex [] [(23, Pr.ex (i64 ((2 : Nat) : Int))), (24, Pr.ex (i64 ((3 : Nat) : Int)))] 2 hN_29 hD_29 (by kernel_rfl) (by kernel_rfl) ?_ ?_
 refine Asks.cons ?_ (Asks.cons ?_ (Asks.zero _))
 exact Ask.plain rfl rfl fun aq wq hNq hO hR hT => does_move (V := i64 ((2 : Nat) : Int)) ((hO 6 rfl).trans s6_29) ⟨Ext.refl _, rfl⟩
 exact Ask.plain rfl rfl fun aq wq hNq hO hR hT => does_add (a := ((2 : Nat) : Int)) (b := ((1 : Nat) : Int)) (r := ((3 : Nat) : Int)) (hT 23 rfl rfl) rfl (by decide) (by decide) (by decide) ⟨Ext.refl _, rfl⟩
 intro a30 wd30 hN_30 hD_30 hO hR hA hU
 obtain ⟨_, t24, _⟩ := hA
 have hE_30 := hE_28.trans hR
 have s0_30 := (hO 0 rfl).trans s0_29
 have s3_30 := (hO 3 rfl).trans s3_29
 have s4_30 := (hO 4 rfl).trans s4_29
 have s5_30 := (hO 5 rfl).trans s5_29
 have s6_30 := (hO 6 rfl).trans s6_29
 have hsx1_30 := hsx1_28.ext' hR
 have hsx29_30 := hsx29_28.ext' hR
 have hsx29_1_30 := hsx29_1_28.ext' hR
 have hsx29_2_30 := hsx29_2_28.ext' hR
 have hsx30_2_30 := hsx30_2_28.ext' hR
 have hox29_30 := hox29_28.ext' hR
 have hox29_1_30 := hox29_1_28.ext' hR
 have hox29_2_30 := hox29_2_28.ext' hR
 have hox30_2_30 := hox30_2_28.ext' hR
 have s24_30 : get a30 24 = i64 ((3 : Nat) : Int) := t24
 clear hE_28 hN_29 hD_29 s0_29 s3_29 s4_29 s5_29 s6_29 hsx1_28 hsx29_28 hsx29_1_28 hsx29_2_28 hsx30_2_28 hox29_28 hox29_1_28 hox29_2_28 hox30_2_28
 refine tail_put rfl rfl hN_30 hD_30 (by decide) (does_assign (V := i64 ((3 : Nat) : Int)) s24_30 (fun a31 hN_31 hD_31 hv hO => ?_))
 have s6_31 := hv
 have s0_31 := (hO 0 rfl).trans s0_30
 have s3_31 := (hO 3 rfl).trans s3_30
 have s4_31 := (hO 4 rfl).trans s4_30
 have s5_31 := (hO 5 rfl).trans s5_30
 clear hO hv hN_30 hD_30 s0_30 s3_30 s4_30 s5_30 s24_30 s6_30
 refine tail_nil ?_
 refine round_step ?_
 refine wp_seq ?_
 refine wp_seq ?_
 refine region_lex [] [(21, Pr.ex (i64 ((3 : Nat) : Int))), (22, Pr.ex (Value.bool (true)))] 2 hN_31 hD_31 (by kernel_rfl) (by kernel_rfl) ?_ ?_
 refine Asks.cons ?_ (Asks.cons ?_ (Asks.zero _))
 exact Ask.plain rfl rfl fun aq wq hNq hO hR hT => does_move (V := i64 ((3 : Nat) : Int)) ((hO 6 rfl).trans s6_31) ⟨Ext.refl _, rfl⟩
 exact Ask.plain rfl rfl fun aq wq hNq hO hR hT => does_lss (a := ((3 : Nat) : Int)) (b := ((4 : Nat) : Int)) (hT 21 rfl rfl) rfl ⟨Ext.refl _, rfl⟩
 intro a32 wd32 hN_32 hD_32 hO hR hA hU
 obtain ⟨_, t22, _⟩ := hA
 have hE_32 := hE_30.trans hR
 have s0_32 := (hO 0 rfl).trans s0_31
 have s3_32 := (hO 3 rfl).trans s3_31
 have s4_32 := (hO 4 rfl).trans s4_31
 have s5_32 := (hO 5 rfl).trans s5_31
 have s6_32 := (hO 6 rfl).trans s6_31
 have hsx1_32 := hsx1_30.ext' hR
 have hsx29_32 := hsx29_30.ext' hR
 have hsx29_1_32 := hsx29_1_30.ext' hR
 have hsx29_2_32 := hsx29_2_30.ext' hR
 have hsx30_2_32 := hsx30_2_30.ext' hR
 have hox29_32 := hox29_30.ext' hR
 have hox29_1_32 := hox29_1_30.ext' hR
 have hox29_2_32 := hox29_2_30.ext' hR
 have hox30_2_32 := hox30_2_30.ext' hR
 have s22_32 : get a32 22 = Value.bool (true) := t22
 clear hE_30 hN_31 hD_31 s0_31 s3_31 s4_31 s5_31 s6_31 hsx1_30 hsx29_30 hsx29_1_30 hsx29_2_30 hsx30_2_30 hox29_30 hox29_1_30 hox29_2_30 hox30_2_30
 refine tail_nil ?_
 refine wp_ifT s22_32 ?_
 refine wp_skip ?_
 refine wp_seq ?_
 refine wp_block ?_
 refine wp_seq ?_
 refine region_lex [] [(25, Pr.ex (x30_2)), (26, Pr.ex (w32 (UInt32.ofNat ((UInt32.ofNat ((UInt32.ofNat ((x : UInt32).toNat / (256 : UInt32).toNat) : UInt32).toNat / (256 : UInt32).toNat) : UInt32).toNat / (256 : UInt32).toNat)))), (27, Pr.ex (w32 (UInt32.ofNat ((UInt32.ofNat ((UInt32.ofNat ((UInt32.ofNat ((x : UInt32).toNat / (256 : UInt32).toNat) : UInt32).toNat / (256 : UInt32).toNat) : UInt32).toNat / (256 : UInt32).toNat) : UInt32).toNat % (256 : UInt32).toNat)))), (28, Pr.ex (w8 (UInt8.ofNat (UInt32.ofNat ((UInt32.ofNat ((UInt32.ofNat ((UInt32.ofNat ((x : UInt32).toNat / (256 : UInt32).toNat) : UInt32).toNat / (256 : UInt32).toNat) : UInt32).toNat / (256 : UInt32).toNat) : UInt32).toNat % (256 : UInt32).toNat)).toNat))), (29, Pr.own' W8 wd32.heap.size 5 ([UInt8.ofNat (UInt32.ofNat ((UInt32.ofNat ((UInt32.ofNat ((UInt32.ofNat ((x : UInt32).toNat / (256 : UInt32).toNat) : UInt32).toNat / (256 : UInt32).toNat) : UInt32).toNat / (256 : UInt32).toNat) : UInt32).toNat % (256 : UInt32).toNat)).toNat]))] 5 hN_32 hD_32 (by kernel_rfl) (by kernel_rfl) ?_ ?_
 refine Asks.cons ?_ (Asks.cons ?_ (Asks.cons ?_ (Asks.cons ?_ (Asks.cons ?_ (Asks.zero _)))))
 exact Ask.plain rfl rfl fun aq wq hNq hO hR hT => does_move (V := x30_2) ((hO 3 rfl).trans s3_32) ⟨Ext.refl _, rfl⟩
 exact Ask.plain rfl rfl fun aq wq hNq hO hR hT => does_move (V := w32 (UInt32.ofNat ((UInt32.ofNat ((UInt32.ofNat ((x : UInt32).toNat / (256 : UInt32).toNat) : UInt32).toNat / (256 : UInt32).toNat) : UInt32).toNat / (256 : UInt32).toNat))) ((hO 5 rfl).trans s5_32) ⟨Ext.refl _, rfl⟩
 exact Ask.plain rfl rfl fun aq wq hNq hO hR hT => does_rem32 (a := (UInt32.ofNat ((UInt32.ofNat ((UInt32.ofNat ((x : UInt32).toNat / (256 : UInt32).toNat) : UInt32).toNat / (256 : UInt32).toNat) : UInt32).toNat / (256 : UInt32).toNat) : UInt32)) (b := (256 : UInt32)) (hT 26 rfl rfl) rfl (by decide) ⟨Ext.refl _, rfl⟩
 exact Ask.plain rfl rfl fun aq wq hNq hO hR hT => does_conv ⟨_, Tryd.underlying22⟩ Tryd.underlying5 (hT 27 rfl rfl) (wrap_u8 _) ⟨Ext.refl _, rfl⟩
 exact Ask.plain rfl rfl fun aq wq hNq hO hR hT => does_slice1 (T := W8) (X := UInt8.ofNat (UInt32.ofNat ((UInt32.ofNat ((UInt32.ofNat ((UInt32.ofNat ((x : UInt32).toNat / (256 : UInt32).toNat) : UInt32).toNat / (256 : UInt32).toNat) : UInt32).toNat / (256 : UInt32).toNat) : UInt32).toNat % (256 : UInt32).toNat)).toNat) (V := w8 (UInt8.ofNat (UInt32.ofNat ((UInt32.ofNat ((UInt32.ofNat ((UInt32.ofNat ((x : UInt32).toNat / (256 : UInt32).toNat) : UInt32).toNat / (256 : UInt32).toNat) : UInt32).toNat / (256 : UInt32).toNat) : UInt32).toNat % (256 : UInt32).toNat)).toNat)) app_85 rfl (by decide) (hT 28 rfl rfl) rfl (fun v w2 he _ ho => ⟨he, OwnT.base ho hR.size'⟩)
 intro a33 wd33 hN_33 hD_33 hO hR hA hU
 obtain ⟨t25, _, _, _, t29, _⟩ := hA
 have hE_33 := hE_32.trans hR
 have s0_33 := (hO 0 rfl).trans s0_32
 have s3_33 := (hO 3 rfl).trans s3_32
 have s4_33 := (hO 4 rfl).trans s4_32
 have s5_33 := (hO 5 rfl).trans s5_32
 have s6_33 := (hO 6 rfl).trans s6_32
 have hsx1_33 := hsx1_32.ext' hR
 have hsx29_33 := hsx29_32.ext' hR
 have hsx29_1_33 := hsx29_1_32.ext' hR
 have hsx29_2_33 := hsx29_2_32.ext' hR
 have hsx30_2_33 := hsx30_2_32.ext' hR
 have hox29_33 := hox29_32.ext' hR
 have hox29_1_33 := hox29_1_32.ext' hR
 have hox29_2_33 := hox29_2_32.ext' hR
 have hox30_2_33 := hox30_2_32.ext' hR
 have s25_33 : get a33 25 = x30_2 := t25
 obtain ⟨x29_3, s29_33⟩ : ∃ x, get a33 29 = x := ⟨_, rfl⟩
 replace t29 : OwnT W8 wd32.heap.size 5 ([UInt8.ofNat (UInt32.ofNat ((UInt32.ofNat ((UInt32.ofNat ((UInt32.ofNat ((x : UInt32).toNat / (256 : UInt32).toNat) : UInt32).toNat / (256 : UInt32).toNat) : UInt32).toNat / (256 : UInt32).toNat) : UInt32).toNat % (256 : UInt32).toNat)).toNat]) x29_3 wd33 := by rw [← s29_33]; exact t29
 have no_x29_3_x29 : ∀ k, x29_3.ownBlock = some k → x29.ownBlock ≠ some k := fun k e e' => Nat.lt_irrefl _ (Nat.lt_of_lt_of_le (OwnT.block_lt hox29_32 e').2 (OwnT.block_lt t29 e).1)
 have no_x29_3_x29_1 : ∀ k, x29_3.ownBlock = some k → x29_1.ownBlock ≠ some k := fun k e e' => Nat.lt_irrefl _ (Nat.lt_of_lt_of_le (OwnT.block_lt hox29_1_32 e').2 (OwnT.block_lt t29 e).1)
 have no_x29_3_x29_2 : ∀ k, x29_3.ownBlock = some k → x29_2.ownBlock ≠ some k := fun k e e' => Nat.lt_irrefl _ (Nat.lt_of_lt_of_le (OwnT.block_lt hox29_2_32 e').2 (OwnT.block_lt t29 e).1)
 have no_x29_3_x30_2 : ∀ k, x29_3.ownBlock = some k → x30_2.ownBlock ≠ some k := fun k e e' => Nat.lt_irrefl _ (Nat.lt_of_lt_of_le (OwnT.block_lt hox30_2_32 e').2 (OwnT.block_lt t29 e).1)
 have hsx29_3_33 := t29.sl.wide (Nat.zero_le _) (.inl rfl)
 have hox29_3_33 := OwnT.base t29 hE_32.size'
 clear hE_32 hN_32 hD_32 s0_32 s3_32 s4_32 s5_32 s6_32 s22_32 hsx1_32 hsx29_32 hsx29_1_32 hsx29_2_32 hsx30_2_32 hox29_32 hox29_1_32 hox29_2_32 hox30_2_32
 refine tail_put rfl rfl hN_33 hD_33 (by decide) (does_append (T := W8) (base := w0.heap.size) (xs := (((wbytes (l.take k)) ++ [UInt8.ofNat (UInt32.ofNat ((x : UInt32).toNat % (256 : UInt32).toNat)).toNat]) ++ [UInt8.ofNat (UInt32.ofNat ((UInt32.ofNat ((x : UInt32).toNat / (256 : UInt32).toNat) : UInt32).toNat % (256 : UInt32).toNat)).toNat]) ++ [UInt8.ofNat (UInt32.ofNat ((UInt32.ofNat ((UInt32.ofNat ((x : UInt32).toNat / (256 : UInt32).toNat) : UInt32).toNat / (256 : UInt32).toNat) : UInt32).toNat % (256 : UInt32).toNat)).toNat]) (ys := [UInt8.ofNat (UInt32.ofNat ((UInt32.ofNat ((UInt32.ofNat ((UInt32.ofNat ((x : UInt32).toNat / (256 : UInt32).toNat) : UInt32).toNat / (256 : UInt32).toNat) : UInt32).toNat / (256 : UInt32).toNat) : UInt32).toNat % (256 : UInt32).toNat)).toNat]) (v := x30_2) app_85 s25_33 hox30_2_33 (SlT.at s29_33 hsx29_3_33) (by simp) (by simp only [List.length_append, bytes_length, List.length_take, List.length_cons, List.length_nil]; omega) (by simp only [List.length_append, bytes_length, List.length_take, List.length_cons, List.length_nil]; omega) hE_33.size' (fun x30_3 wd34 hX hox30_3_34 hk a34 hN_34 hD_34 hv hO => ?_))
 have hE_34 := hE_33.since hX (fun b hb => Nat.le_trans (Nat.le_refl _) (OwnT.block_lt hox30_2_33 hb).1)
 have hsx1_34 := SlT.overOwn hsx1_33 hox30_2_33 hX
 have hox29_34 := OwnT.ext hox29_33 hX (fun k hk e => no_x30_2_x29 k e hk)
 have no_x30_3_x29 : ∀ k, x30_3.ownBlock = some k → x29.ownBlock ≠ some k := fun k e e' => (hk k e).elim (fun h => no_x30_2_x29 k h e') (fun h => Nat.lt_irrefl _ (Nat.lt_of_lt_of_le (OwnT.block_lt hox29_33 e').2 h))
 have hsx29_34 := hox29_34.sl.wide (Nat.zero_le _) (.inl rfl)
 have hox29_1_34 := OwnT.ext hox29_1_33 hX (fun k hk e => no_x30_2_x29_1 k e hk)
 have no_x30_3_x29_1 : ∀ k, x30_3.ownBlock = some k → x29_1.ownBlock ≠ some k := fun k e e' => (hk k e).elim (fun h => no_x30_2_x29_1 k h e') (fun h => Nat.lt_irrefl _ (Nat.lt_of_lt_of_le (OwnT.block_lt hox29_1_33 e').2 h))
 have hsx29_1_34 := hox29_1_34.sl.wide (Nat.zero_le _) (.inl rfl)
 have hox29_2_34 := OwnT.ext hox29_2_33 hX (fun k hk e => no_x30_2_x29_2 k e hk)
 have no_x30_3_x29_2 : ∀ k, x30_3.ownBlock = some k → x29_2.ownBlock ≠ some k := fun k e e' => (hk k e).elim (fun h => no_x30_2_x29_2 k h e') (fun h => Nat.lt_irrefl _ (Nat.lt_of_lt_of_le (OwnT.block_lt hox29_2_33 e').2 h))
 have hsx29_2_34 := hox29_2_34.sl.wide (Nat.zero_le _) (.inl rfl)
 have hox29_3_34 := OwnT.ext hox29_3_33 hX (fun k hk e => no_x29_3_x30_2 k hk e)
 have no_x30_3_x29_3 : ∀ k, x30_3.ownBlock = some k → x29_3.ownBlock ≠ some k := fun k e e' => (hk k e).elim (fun h => no_x29_3_x30_2 k e' h) (fun h => Nat.lt_irrefl _ (Nat.lt_of_lt_of_le (OwnT.block_lt hox29_3_33 e').2 h))
 have hsx29_3_34 := hox29_3_34.sl.wide (Nat.zero_le _) (.inl rfl)
 have hsx30_3_34 := hox30_3_34.sl.wide (Nat.zero_le _) (.inl rfl)
 have s30_34 := hv
 have s0_34 := (hO 0 rfl).trans s0_33
 have s3_34 := (hO 3 rfl).trans s3_33
 have s4_34 := (hO 4 rfl).trans s4_33
 have s5_34 := (hO 5 rfl).trans s5_33
 have s6_34 := (hO 6 rfl).trans s6_33
 clear hO hv hX hk hN_33 hD_33 hE_33 hsx1_33 hox29_33 hox29_1_33 hox29_2_33 hox29_3_33 s0_33 s3_33 s4_33 s5_33 s6_33 s25_33 s29_33
 refine tail_put rfl rfl hN_34 hD_34 (by decide) (does_assign (V := x30_3) s30_34 (fun a35 hN_35 hD_35 hv hO => ?_))
 have s3_35 := hv
 have s0_35 := (hO 0 rfl).trans s0_34
 have s4_35 := (hO 4 rfl).trans s4_34
 have s5_35 := (hO 5 rfl).trans s5_34
 have s6_35 := (hO 6 rfl).trans s6_34
 clear hO hv hN_34 hD_34 s0_34 s4_34 s5_34 s6_34 s30_34 s3_34
 refine tail_nil ?_
 refine region_lex [] [(31, Pr.ex (w32 (UInt32.ofNat ((UInt32.ofNat ((UInt32.ofNat ((x : UInt32).toNat / (256 : UInt32).toNat) : UInt32).toNat / (256 : UInt32).toNat) : UInt32).toNat / (256 : UInt32).toNat)))), (32, Pr.ex (w32 (UInt32.ofNat ((UInt32.ofNat ((UInt32.ofNat ((UInt32.ofNat ((x : UInt32).toNat / (256 : UInt32).toNat) : UInt32).toNat / (256 : UInt32).toNat) : UInt32).toNat / (256 : UInt32).toNat) : UInt32).toNat / (256 : UInt32).toNat))))] 2 hN_35 hD_35 (by kernel_rfl) (by kernel_rfl) ?_ ?_
 refine Asks.cons ?_ (Asks.cons ?_ (Asks.zero _))
 exact Ask.plain rfl rfl fun aq wq hNq hO hR hT => does_move (V := w32 (UInt32.ofNat ((UInt32.ofNat ((UInt32.ofNat ((x : UInt32).toNat / (256 : UInt32).toNat) : UInt32).toNat / (256 : UInt32).toNat) : UInt32).toNat / (256 : UInt32).toNat))) ((hO 5 rfl).trans s5_35) ⟨Ext.refl _, rfl⟩
 exact Ask.plain rfl rfl fun aq wq hNq hO hR hT => does_quo32 (a := (UInt32.ofNat ((UInt32.ofNat ((UInt32.ofNat ((x : UInt32).toNat / (256 : UInt32).toNat) : UInt32).toNat / (256 : UInt32).toNat) : UInt32).toNat / (256 : UInt32).toNat) : UInt32)) (b := (256 : UInt32)) (hT 31 rfl rfl) rfl (by decide) ⟨Ext.refl _, rfl⟩
 intro a36 wd36 hN_36 hD_36 hO hR hA hU
 obtain ⟨_, t32, _⟩ := hA
 have hE_36 := hE_34.trans hR
 have s0_36 := (hO 0 rfl).trans s0_35
 have s3_36 := (hO 3 rfl).trans s3_35
 have s4_36 := (hO 4 rfl).trans s4_35
 have s5_36 := (hO 5 rfl).trans s5_35
 have s6_36 := (hO 6 rfl).trans s6_35
 have hsx1_36 := hsx1_34.ext' hR
 have hsx29_36 := hsx29_34.ext' hR
 have hsx29_1_36 := hsx29_1_34.ext' hR
 have hsx29_2_36 := hsx29_2_34.ext' hR
 have hsx29_3_36 := hsx29_3_34.ext' hR
 have hsx30_3_36 := hsx30_3_34.ext' hR
 have hox29_36 := hox29_34.ext' hR
 have hox29_1_36 := hox29_1_34.ext' hR
 have hox29_2_36 := hox29_2_34.ext' hR
 have hox29_3_36 := hox29_3_34.ext' hR
 have hox30_3_36 := hox30_3_34.ext' hR
 have s32_36 : get a36 32 = w32 (UInt32.ofNat ((UInt32.ofNat ((UInt32.ofNat ((UInt32.ofNat ((x : UInt32).toNat / (256 : UInt32).toNat) : UInt32).toNat / (256 : UInt32).toNat) : UInt32).toNat / (256 : UInt32).toNat) : UInt32).toNat / (256 : UInt32).toNat)) := t32
 clear hE_34 hN_35 hD_35 s0_35 s3_35 s4_35 s5_35 s6_35 hsx1_34 hsx29_34 hsx29_1_34 hsx29_2_34 hsx29_3_34 hsx30_3_34 hox29_34 hox29_1_34 hox29_2_34 hox29_3_34 hox30_3_34
 refine tail_put rfl rfl hN_36 hD_36 (by decide) (does_assign (V := w32 (UInt32.ofNat ((UInt32.ofNat ((UInt32.ofNat ((UInt32.ofNat ((x : UInt32).toNat / (256 : UInt32).toNat) : UInt32).toNat / (256 : UInt32).toNat) : UInt32).toNat / (256 : UInt32).toNat) : UInt32).toNat / (256 : UInt32).toNat))) s32_36 (fun a37 hN_37 hD_37 hv hO => ?_))
 have s5_37 := hv
 have s0_37 := (hO 0 rfl).trans s0_36
 have s3_37 := (hO 3 rfl).trans s3_36
 have s4_37 := (hO 4 rfl).trans s4_36
 have s6_37 := (hO 6 rfl).trans s6_36
 clear hO hv hN_36 hD_36 s0_36 s3_36 s4_36 s6_36 s32_36 s5_36
 refine tail_nil ?_
 refine region_lex [] [(23, Pr.ex (i64 ((3 : Nat) : Int))), (24, Pr.ex (i64 ((4 : Nat) : Int)))] 2 hN_37 hD_37 (by kernel_rfl) (by kernel_rfl) ?_ ?_
 refine Asks.cons ?_ (Asks.cons ?_ (Asks.zero _))
 exact Ask.plain rfl rfl fun aq wq hNq hO hR hT => does_move (V := i64 ((3 : Nat) : Int)) ((hO 6 rfl).trans s6_37) ⟨Ext.refl _, rfl⟩
 exact Ask.plain rfl rfl fun aq wq hNq hO hR hT => does_add (a := ((3 : Nat) : Int)) (b := ((1 : Nat) : Int)) (r := ((4 : Nat) : Int)) (hT 23 rfl rfl) rfl (by decide) (by decide) (by decide) ⟨Ext.refl _, rfl⟩
 intro a38 wd38 hN_38 hD_38 hO hR hA hU
 obtain ⟨_, t24, _⟩ := hA
 have hE_38 := hE_36.trans hR
 have s0_38 := (hO 0 rfl).trans s0_37
 have s3_38 := (hO 3 rfl).trans s3_37
 have s4_38 := (hO 4 rfl).trans s4_37
 have s5_38 := (hO 5 rfl).trans s5_37
 have s6_38 := (hO 6 rfl).trans s6_37
 have hsx1_38 := hsx1_36.ext' hR
 have hsx29_38 := hsx29_36.ext' hR
 have hsx29_1_38 := hsx29_1_36.ext' hR
 have hsx29_2_38 := hsx29_2_36.ext' hR
 have hsx29_3_38 := hsx29_3_36.ext' hR
 have hsx30_3_38 := hsx30_3_36.ext' hR
 have hox29_38 := hox29_36.ext' hR
 have hox29_1_38 := hox29_1_36.ext' hR
 have hox29_2_38 := hox29_2_36.ext' hR
 have hox29_3_38 := hox29_3_36.ext' hR
 have hox30_3_38 := hox30_3_36.ext' hR
 have s24_38 : get a38 24 = i64 ((4 : Nat) : Int) := t24
 clear hE_36 hN_37 hD_37 s0_37 s3_37 s4_37 s5_37 s6_37 hsx1_36 hsx29_36 hsx29_1_36 hsx29_2_36 hsx29_3_36 hsx30_3_36 hox29_36 hox29_1_36 hox29_2_36 hox29_3_36 hox30_3_36
 refine tail_put rfl rfl hN_38 hD_38 (by decide) (does_assign (V := i64 ((4 : Nat) : Int)) s24_38 (fun a39 hN_39 hD_39 hv hO => ?_))
 have s6_39 := hv
 have s0_39 := (hO 0 rfl).trans s0_38
 have s3_39 := (hO 3 rfl).trans s3_38
 have s4_39 := (hO 4 rfl).trans s4_38
 have s5_39 := (hO 5 rfl).trans s5_38
 clear hO hv hN_38 hD_38 s0_38 s3_38 s4_38 s5_38 s24_38 s6_38
 refine tail_nil ?_
 refine round_step ?_
 refine wp_seq ?_
 refine wp_seq ?_
 refine region_lex [] [(21, Pr.ex (i64 ((4 : Nat) : Int))), (22, Pr.ex (Value.bool (false)))] 2 hN_39 hD_39 (by kernel_rfl) (by kernel_rfl) ?_ ?_
 refine Asks.cons ?_ (Asks.cons ?_ (Asks.zero _))
 exact Ask.plain rfl rfl fun aq wq hNq hO hR hT => does_move (V := i64 ((4 : Nat) : Int)) ((hO 6 rfl).trans s6_39) ⟨Ext.refl _, rfl⟩
 exact Ask.plain rfl rfl fun aq wq hNq hO hR hT => does_lss (a := ((4 : Nat) : Int)) (b := ((4 : Nat) : Int)) (hT 21 rfl rfl) rfl ⟨Ext.refl _, rfl⟩
 intro a40 wd40 hN_40 hD_40 hO hR hA hU
 obtain ⟨_, t22, _⟩ := hA
 have hE_40 := hE_38.trans hR
 have s0_40 := (hO 0 rfl).trans s0_39
 have s3_40 := (hO 3 rfl).trans s3_39
 have s4_40 := (hO 4 rfl).trans s4_39
 have s5_40 := (hO 5 rfl).trans s5_39
 have s6_40 := (hO 6 rfl).trans s6_39
 have hsx1_40 := hsx1_38.ext' hR
 have hsx29_40 := hsx29_38.ext' hR
 have hsx29_1_40 := hsx29_1_38.ext' hR
 have hsx29_2_40 := hsx29_2_38.ext' hR
 have hsx29_3_40 := hsx29_3_38.ext' hR
 have hsx30_3_40 := hsx30_3_38.ext' hR
 have hox29_40 := hox29_38.ext' hR
 have hox29_1_40 := hox29_1_38.ext' hR
 have hox29_2_40 := hox29_2_38.ext' hR
 have hox29_3_40 := hox29_3_38.ext' hR
 have hox30_3_40 := hox30_3_38.ext' hR
 have s22_40 : get a40 22 = Value.bool (false) := t22
 clear hE_38 hN_39 hD_39 s0_39 s3_39 s4_39 s5_39 s6_39 hsx1_38 hsx29_38 hsx29_1_38 hsx29_2_38 hsx29_3_38 hsx30_3_38 hox29_38 hox29_1_38 hox29_2_38 hox29_3_38 hox30_3_38
 refine tail_nil ?_
 refine wp_ifF s22_40 ?_
 refine wp_exit ?_
 refine region_lex [] [(15, Pr.ex (i64 ((k : Nat) : Int))), (16, Pr.ex (i64 ((k + 1 : Nat) : Int)))] 2 hN_40 hD_40 (by kernel_rfl) (by kernel_rfl) ?_ ?_
 refine Asks.cons ?_ (Asks.cons ?_ (Asks.zero _))
 exact Ask.plain rfl rfl fun aq wq hNq hO hR hT => does_move (V := i64 ((k : Nat) : Int)) ((hO 4 rfl).trans s4_40) ⟨Ext.refl _, rfl⟩
 exact Ask.plain rfl rfl fun aq wq hNq hO hR hT => does_add (a := ((k : Nat) : Int)) (b := ((1 : Nat) : Int)) (r := ((k + 1 : Nat) : Int)) (hT 15 rfl rfl) rfl (by omega) (by omega) (by omega) ⟨Ext.refl _, rfl⟩
 intro a41 wd41 hN_41 hD_41 hO hR hA hU
 obtain ⟨_, t16, _⟩ := hA
 have hE_41 := hE_40.trans hR
 have s0_41 := (hO 0 rfl).trans s0_40
 have s3_41 := (hO 3 rfl).trans s3_40
 have s4_41 := (hO 4 rfl).trans s4_40
 have hsx1_41 := hsx1_40.ext' hR
 have hsx29_41 := hsx29_40.ext' hR
 have hsx29_1_41 := hsx29_1_40.ext' hR
 have hsx29_2_41 := hsx29_2_40.ext' hR
 have hsx29_3_41 := hsx29_3_40.ext' hR
 have hsx30_3_41 := hsx30_3_40.ext' hR
 have hox29_41 := hox29_40.ext' hR
 have hox29_1_41 := hox29_1_40.ext' hR
 have hox29_2_41 := hox29_2_40.ext' hR
 have hox29_3_41 := hox29_3_40.ext' hR
 have hox30_3_41 := hox30_3_40.ext' hR
 have s16_41 : get a41 16 = i64 ((k + 1 : Nat) : Int) := t16
 clear hE_40 hN_40 hD_40 s0_40 s3_40 s4_40 s5_40 s6_40 s22_40 hsx1_40 hsx29_40 hsx29_1_40 hsx29_2_40 hsx29_3_40 hsx30_3_40 hox29_40 hox29_1_40 hox29_2_40 hox29_3_40 hox30_3_40
 refine tail_put rfl rfl hN_41 hD_41 (by decide) (does_assign (V := i64 ((k + 1 : Nat) : Int)) s16_41 (fun a42 hN_42 hD_42 hv hO => ?_))
 have s4_42 := hv
 have s0_42 := (hO 0 rfl).trans s0_41
 have s3_42 := (hO 3 rfl).trans s3_41
 clear hO hv hN_41 hD_41 s0_41 s3_41 s16_41 s4_41
 refine tail_nil ?_
 exact ⟨_, by omega, k + 1, x30_3, rfl, hN_42, hD_42, s0_42, s3_42, s4_42, hE_41, hsx1_41, (by have h := hox30_3_41; rw [bytes_stepR hx _ _ _ rfl rfl rfl] at h; exact h), by omega⟩
 have hc0 := of_decide_eq_false hc0
 have hk2 : l.take k = l := List.take_of_length_le (by omega)
 refine wp_exit ?_
 refine wp_seq ?_
 refine region_lex [] [(33, Pr.ex (xo)), (34, Pr.ex (str (wbytes (l.take k)))), (2, Pr.ex (str (wbytes (l.take k))))] 3 hN_5 hD_5 (by kernel_rfl) (by kernel_rfl) ?_ ?_
 refine Asks.cons ?_ (Asks.cons ?_ (Asks.cons ?_ (Asks.zero _)))
 exact Ask.plain rfl rfl fun aq wq hNq hO hR hT => does_move (V := xo) ((hO 3 rfl).trans s3_5) ⟨Ext.refl _, rfl⟩
 exact Ask.plain rfl rfl fun aq wq hNq hO hR hT => does_string (l := wbytes (l.take k)) Tryd.underlying9 Tryd.underlying85 Tryd.underlying5 (SlT.at (hT 33 rfl rfl) (hsxo_5.ext' hR)) ⟨Ext.refl _, rfl⟩
 exact Ask.plain rfl rfl fun aq wq hNq hO hR hT => does_assign (V := str (wbytes (l.take k))) (hT 34 rfl rfl) ⟨Ext.refl _, rfl⟩
 intro a43 wd43 hN_43 hD_43 hO hR hA hU
 obtain ⟨_, _, t2, _⟩ := hA
 have hE_43 := hE_5.trans hR
 have hsx1_43 := hsx1_5.ext' hR
 have hsxo_43 := hsxo_5.ext' hR
 have hoxo_43 := hoxo_5.ext' hR
 have s2_43 : get a43 2 = str (wbytes (l.take k)) := t2
 clear hE_5 hN_5 hD_5 s0_5 s3_5 s4_5 s14_5 hsx1_5 hsxo_5 hoxo_5
 refine tail_nil ?_
 refine wp_ret ?_
 refine res_one (V := str (wbytes (l.take k))) rfl hD_43 s2_43 ?_
 exact ⟨by show str _ = str _; rw [hk2], hE_43⟩

theorem words_ (s : List UInt8) (w0 : World) (h4 : s.length % 4 = 0) (hn : s.length ≤ 4194304) :
    Gives Tryd.prog 60 #[str (s)] w0 (Pr.t2 (Pr.own' W32 w0.heap.size 22 (words s)) (Pr.ex (i64 ((0 : Nat) : Int)))) := by
 refine enter (N := 36) Tryd.func60 rfl rfl ?_
 intro a0 hN_0 hD_0 hA
 have s0_0 : get a0 0 = str (s) := hA 0 _ rfl
 clear hA
 have hE_0 : Ext w0 w0 := Ext.refl w0
 refine wp_seq ?_
 refine region_lex [] [(2, Pr.ex (Value.slice none 0 0)), (3, Pr.ex (i64 ((0 : Nat) : Int)))] 2 hN_0 hD_0 (by kernel_rfl) (by kernel_rfl) ?_ ?_
 refine Asks.cons ?_ (Asks.cons ?_ (Asks.zero _))
 exact Ask.plain rfl rfl fun aq wq hNq hO hR hT => does_assign (V := Value.slice none 0 0) rfl ⟨Ext.refl _, rfl⟩
 exact Ask.plain rfl rfl fun aq wq hNq hO hR hT => does_assign (V := i64 ((0 : Nat) : Int)) rfl ⟨Ext.refl _, rfl⟩
 intro a1 wd1 hN_1 hD_1 hO hR hA hU
 obtain ⟨_, _, _⟩ := hA
 have hE_1 := hE_0.trans hR
 have s0_1 := (hO 0 rfl).trans s0_0
 clear hE_0 hN_0 hD_0 s0_0
 refine tail_nil ?_
 refine wp_seq ?_
 refine wp_seq ?_
 refine region_lex [] [(5, Pr.ex (str (s))), (6, Pr.ex (i64 ((s.length : Nat) : Int))), (7, Pr.ex (i64 ((s.length % 4 : Nat) : Int))), (8, Pr.ex (Value.bool (!decide (((s.length % 4 : Nat) : Int) = ((0 : Nat) : Int)))))] 4 hN_1 hD_1 (by kernel_rfl) (by kernel_rfl) ?_ ?_
 refine Asks.cons ?_ (Asks.cons ?_ (Asks.cons ?_ (Asks.cons ?_ (Asks.zero _))))
 exact Ask.plain rfl rfl fun aq wq hNq hO hR hT => does_move (V := str (s)) ((hO 0 rfl).trans s0_1) ⟨Ext.refl _, rfl⟩
 exact Ask.plain rfl rfl fun aq wq hNq hO hR hT => does_lenStr (l := s) Tryd.underlying9 (hT 5 rfl rfl) ⟨Ext.refl _, rfl⟩
 exact Ask.plain rfl rfl fun aq wq hNq hO hR hT => does_rem (k := .i64) (a := ((s.length : Nat) : Int)) (b := ((4 : Nat) : Int)) (r := ((s.length % 4 : Nat) : Int)) (hT 6 rfl rfl) rfl (by omega) (by omega) (by omega) ⟨Ext.refl _, rfl⟩
 exact Ask.plain rfl rfl fun aq wq hNq hO hR hT => does_neq (a := ((s.length % 4 : Nat) : Int)) (b := ((0 : Nat) : Int)) (hT 7 rfl rfl) rfl ⟨Ext.refl _, rfl⟩
 intro a2 wd2 hN_2 hD_2 hO hR hA hU
 obtain ⟨_, _, _, t8, _⟩ := hA
 have hE_2 := hE_1.trans hR
 have s0_2 := (hO 0 rfl).trans s0_1
 have s8_2 : get a2 8 = Value.bool (!decide (((s.length % 4 : Nat) : Int) = ((0 : Nat) : Int))) := t8
 clear hE_1 hN_1 hD_1 s0_1
 refine tail_nil ?_
 refine wp_if (B := !decide (((s.length % 4 : Nat) : Int) = ((0 : Nat) : Int))) s8_2 (fun hc0 => ?_) (fun hc0 => ?_)
 have hc0 := of_decide_eq_false (bn hc0)
 omega
 have hc0 := of_decide_eq_true (bn' hc0)
 refine wp_skip ?_
 refine wp_seq ?_
 refine region_lex [] [(4, Pr.ex (Value.slice none 0 0))] 1 hN_2 hD_2 (by kernel_rfl) (by kernel_rfl) ?_ ?_
 refine Asks.cons ?_ (Asks.zero _)
 exact Ask.plain rfl rfl fun aq wq hNq hO hR hT => does_assign (V := Value.slice none 0 0) rfl ⟨Ext.refl _, rfl⟩
 intro a3 wd3 hN_3 hD_3 hO hR hA hU
 obtain ⟨t4, _⟩ := hA
 have hE_3 := hE_2.trans hR
 have s0_3 := (hO 0 rfl).trans s0_2
 have s4_3 : get a3 4 = Value.slice none 0 0 := t4
 clear hE_2 hN_2 hD_2 s0_2 s8_2
 refine tail_nil ?_
 refine wp_seq ?_
 refine wp_block ?_
 refine loop_g (fun mz az wz => ∃ m : List UInt8, ∃ acc : List UInt32, ∃ xo : Value, mz = m.length ∧ (az.tmps.size = 36) ∧ (az.defers = []) ∧ (get az 0 = str (m)) ∧ (get az 4 = xo) ∧ (Ext w0 wz) ∧ (OwnT W32 w0.heap.size 22 (acc) xo wz) ∧ (acc ++ words m = words s) ∧ (m.length % 4 = 0) ∧ (acc.length * 4 + m.length ≤ 4194304)) ?_ ?_
 exact ⟨_, s, [], (Value.slice none 0 0), rfl, hN_3, hD_3, s0_3, s4_3, hE_3, (OwnT.nil W32 w0.heap.size 22 _), rfl, h4, by simpa using hn⟩
 rintro mz a4 wd4 ⟨m, acc, xo, rfl, hN_4, hD_4, s0_4, s4_4, hE_4, hoxo_4, hm, hm0, hal⟩
 have hsxo_4 := hoxo_4.sl.wide (Nat.zero_le _) (.inl rfl)
 refine wp_seq ?_
 refine wp_seq ?_
 refine region_lex [] [(9, Pr.ex (str (m))), (10, Pr.ex (i64 ((m.length : Nat) : Int))), (11, Pr.ex (Value.bool (decide (((0 : Nat) : Int) < ((m.length : Nat) : Int)))))] 3 hN_4 hD_4 (by kernel_rfl) (by kernel_rfl) ?_ ?_
 refine Asks.cons ?_ (Asks.cons ?_ (Asks.cons ?_ (Asks.zero _)))
 exact Ask.plain rfl rfl fun aq wq hNq hO hR hT => does_move (V := str (m)) ((hO 0 rfl).trans s0_4) ⟨Ext.refl _, rfl⟩
 exact Ask.plain rfl rfl fun aq wq hNq hO hR hT => does_lenStr (l := m) Tryd.underlying9 (hT 9 rfl rfl) ⟨Ext.refl _, rfl⟩
 exact Ask.plain rfl rfl fun aq wq hNq hO hR hT => does_gtr (a := ((m.length : Nat) : Int)) (b := ((0 : Nat) : Int)) (hT 10 rfl rfl) rfl ⟨Ext.refl _, rfl⟩
 intro a5 wd5 hN_5 hD_5 hO hR hA hU
 obtain ⟨_, _, t11, _⟩ := hA
 have hE_5 := hE_4.trans hR
 have s0_5 := (hO 0 rfl).trans s0_4
 have s4_5 := (hO 4 rfl).trans s4_4
 have hsxo_5 := hsxo_4.ext' hR
 have hoxo_5 := hoxo_4.ext' hR
 have s11_5 : get a5 11 = Value.bool (decide (((0 : Nat) : Int) < ((m.length : Nat) : Int))) := t11
 clear hE_4 hN_4 hD_4 s0_4 s4_4 hsxo_4 hoxo_4
 refine tail_nil ?_
 refine wp_if (B := decide (((0 : Nat) : Int) < ((m.length : Nat) : Int))) s11_5 (fun hc1 => ?_) (fun hc1 => ?_)
 have hc1 := of_decide_eq_true hc1
 obtain ⟨a, b, c, d, m', hm4⟩ := four_of (l := m) (by omega)
 refine wp_skip ?_
 refine wp_seq ?_
 refine wp_block ?_
 refine region_any [] [(14, Pr.ex (xo)), (15, Pr.ex (str (m))), (16, Pr.ex (w8 (a))), (17, Pr.ex (w32 (UInt32.ofNat (a).toNat))), (18, Pr.ex (str (m))), (19, Pr.ex (w8 (b))), (20, Pr.ex (w32 (UInt32.ofNat (b).toNat))), (21, Pr.ex (w32 (UInt32.ofNat ((UInt32.ofNat (b).toNat).toNat * 2 ^ 8)))), (22, Pr.ex (w32 ((UInt32.ofNat (a).toNat) ||| (UInt32.ofNat ((UInt32.ofNat (b).toNat).toNat * 2 ^ 8))))), (23, Pr.ex (str (m))), (24, Pr.ex (w8 (c))), (25, Pr.ex (w32 (UInt32.ofNat (c).toNat))), (26, Pr.ex (w32 (UInt32.ofNat ((UInt32.ofNat (c).toNat).toNat * 2 ^ 16)))), (27, Pr.ex (w32 (((UInt32.ofNat (a).toNat) ||| (UInt32.ofNat ((UInt32.ofNat (b).toNat).toNat * 2 ^ 8))) ||| (UInt32.ofNat ((UInt32.ofNat (c).toNat).toNat * 2 ^ 16))))), (28, Pr.ex (str (m))), (29, Pr.ex (w8 (d))), (30, Pr.ex (w32 (UInt32.ofNat (d).toNat))), (31, Pr.ex (w32 (UInt32.ofNat ((UInt32.ofNat (d).toNat).toNat * 2 ^ 24)))), (32, Pr.ex (w32 ((((UInt32.ofNat (a).toNat) ||| (UInt32.ofNat ((UInt32.ofNat (b).toNat).toNat * 2 ^ 8))) ||| (UInt32.ofNat ((UInt32.ofNat (c).toNat).toNat * 2 ^ 16))) ||| (UInt32.ofNat ((UInt32.ofNat (d).toNat).toNat * 2 ^ 24))))), (33, Pr.own' W32 wd5.heap.size 22 ([(((UInt32.ofNat (a).toNat) ||| (UInt32.ofNat ((UInt32.ofNat (b).toNat).toNat * 2 ^ 8))) ||| (UInt32.ofNat ((UInt32.ofNat (c).toNat).toNat * 2 ^ 16))) ||| (UInt32.ofNat ((UInt32.ofNat (d).toNat).toNat * 2 ^ 24))]))] 20 mixed hN_5 hD_5 (by kernel_rfl) (by kernel_rfl) (by kernel_rfl) ?_ ?_
 refine Asks.cons ?_ (Asks.cons ?_ (Asks.cons ?_ (Asks.cons ?_ (Asks.cons ?_ (Asks.cons ?_ (Asks.cons ?_ (Asks.cons ?_ (Asks.cons ?_ (Asks.cons ?_ (Asks.cons ?_ (Asks.cons ?_ (Asks.cons ?_ (Asks.cons ?_ (Asks.cons ?_ (Asks.cons ?_ (Asks.cons ?_ (Asks.cons ?_ (Asks.cons ?_ (Asks.cons ?_ (Asks.zero _))))))))))))))))))))
 exact Ask.plainD rfl rfl fun aq wq hNq hO hR hT => does_move (V := xo) ((hO 4 rfl).trans s4_5) ⟨Ext.refl _, rfl⟩
 exact Ask.plainD rfl rfl fun aq wq hNq hO hR hT => does_move (V := str (m)) ((hO 0 rfl).trans s0_5) ⟨Ext.refl _, rfl⟩
 exact Ask.plainD rfl rfl fun aq wq hNq hO hR hT => does_indexStr (l := m) (i := ((0 : Nat) : Int)) (c := a) Tryd.underlying9 (hT 15 rfl rfl) rfl (by omega) (by rw [hm4]; rfl) ⟨Ext.refl _, rfl⟩
 exact Ask.plainD rfl rfl fun aq wq hNq hO hR hT => does_conv ⟨_, Tryd.underlying5⟩ Tryd.underlying22 (hT 16 rfl rfl) (wrap_u32 _) ⟨Ext.refl _, rfl⟩
 exact Ask.plainD rfl rfl fun aq wq hNq hO hR hT => does_move (V := str (m)) ((hO 0 rfl).trans s0_5) ⟨Ext.refl _, rfl⟩
 exact Ask.plainD rfl rfl fun aq wq hNq hO hR hT => does_indexStr (l := m) (i := ((1 : Nat) : Int)) (c := b) Tryd.underlying9 (hT 18 rfl rfl) rfl (by omega) (by rw [hm4]; rfl) ⟨Ext.refl _, rfl⟩
 exact Ask.plainD rfl rfl fun aq wq hNq hO hR hT => does_conv ⟨_, Tryd.underlying5⟩ Tryd.underlying22 (hT 19 rfl rfl) (wrap_u32 _) ⟨Ext.refl _, rfl⟩
 exact Ask.plainD rfl rfl fun aq wq hNq hO hR hT => does_shl32 (a := UInt32.ofNat (b).toNat) (b := 8) (hT 20 rfl rfl) rfl (by decide) ⟨Ext.refl _, rfl⟩
 exact Ask.plainD rfl rfl fun aq wq hNq hO hR hT => does_or32 (a := UInt32.ofNat (a).toNat) (b := UInt32.ofNat ((UInt32.ofNat (b).toNat).toNat * 2 ^ 8)) (hT 17 rfl rfl) (hT 21 rfl rfl) ⟨Ext.refl _, rfl⟩
 exact Ask.plainD rfl rfl fun aq wq hNq hO hR hT => does_move (V := str (m)) ((hO 0 rfl).trans s0_5) ⟨Ext.refl _, rfl⟩
 exact Ask.plainD rfl rfl fun aq wq hNq hO hR hT => does_indexStr (l := m) (i := ((2 : Nat) : Int)) (c := c) Tryd.underlying9 (hT 23 rfl rfl) rfl (by omega) (by rw [hm4]; rfl) ⟨Ext.refl _, rfl⟩
 exact Ask.plainD rfl rfl fun aq wq hNq hO hR hT => does_conv ⟨_, Tryd.underlying5⟩ Tryd.underlying22 (hT 24 rfl rfl) (wrap_u32 _) ⟨Ext.refl _, rfl⟩
 exact Ask.plainD rfl rfl fun aq wq hNq hO hR hT => does_shl32 (a := UInt32.ofNat (c).toNat) (b := 16) (hT 25 rfl rfl) rfl (by decide) ⟨Ext.refl _, rfl⟩
 exact Ask.plainD rfl rfl fun aq wq hNq hO hR hT => does_or32 (a := (UInt32.ofNat (a).toNat) ||| (UInt32.ofNat ((UInt32.ofNat (b).toNat).toNat * 2 ^ 8))) (b := UInt32.ofNat ((UInt32.ofNat (c).toNat).toNat * 2 ^ 16)) (hT 22 rfl rfl) (hT 26 rfl rfl) ⟨Ext.refl _, rfl⟩
 exact Ask.plainD rfl rfl fun aq wq hNq hO hR hT => does_move (V := str (m)) ((hO 0 rfl).trans s0_5) ⟨Ext.refl _, rfl⟩
 exact Ask.plainD rfl rfl fun aq wq hNq hO hR hT => does_indexStr (l := m) (i := ((3 : Nat) : Int)) (c := d) Tryd.underlying9 (hT 28 rfl rfl) rfl (by omega) (by rw [hm4]; rfl) ⟨Ext.refl _, rfl⟩
 exact Ask.plainD rfl rfl fun aq wq hNq hO hR hT => does_conv ⟨_, Tryd.underlying5⟩ Tryd.underlying22 (hT 29 rfl rfl) (wrap_u32 _) ⟨Ext.refl _, rfl⟩
 exact Ask.plainD rfl rfl fun aq wq hNq hO hR hT => does_shl32 (a := UInt32.ofNat (d).toNat) (b := 24) (hT 30 rfl rfl) rfl (by decide) ⟨Ext.refl _, rfl⟩
 exact Ask.plainD rfl rfl fun aq wq hNq hO hR hT => does_or32 (a := ((UInt32.ofNat (a).toNat) ||| (UInt32.ofNat ((UInt32.ofNat (b).toNat).toNat * 2 ^ 8))) ||| (UInt32.ofNat ((UInt32.ofNat (c).toNat).toNat * 2 ^ 16))) (b := UInt32.ofNat ((UInt32.ofNat (d).toNat).toNat * 2 ^ 24)) (hT 27 rfl rfl) (hT 31 rfl rfl) ⟨Ext.refl _, rfl⟩
 exact Ask.plainD rfl rfl fun aq wq hNq hO hR hT => does_slice1 (T := W32) (X := (((UInt32.ofNat (a).toNat) ||| (UInt32.ofNat ((UInt32.ofNat (b).toNat).toNat * 2 ^ 8))) ||| (UInt32.ofNat ((UInt32.ofNat (c).toNat).toNat * 2 ^ 16))) ||| (UInt32.ofNat ((UInt32.ofNat (d).toNat).toNat * 2 ^ 24))) (V := w32 ((((UInt32.ofNat (a).toNat) ||| (UInt32.ofNat ((UInt32.ofNat (b).toNat).toNat * 2 ^ 8))) ||| (UInt32.ofNat ((UInt32.ofNat (c).toNat).toNat * 2 ^ 16))) ||| (UInt32.ofNat ((UInt32.ofNat (d).toNat).toNat * 2 ^ 24)))) app_70 rfl (by decide) (hT 32 rfl rfl) rfl (fun v w2 he _ ho => ⟨he, OwnT.base ho hR.size'⟩)
 intro a6 wd6 hN_6 hD_6 hO hR hA hU
 obtain ⟨t14, _, _, _, _, _, _, _, _, _, _, _, _, _, _, _, _, _, _, t33, _⟩ := hA
 have hE_6 := hE_5.trans hR
 have s0_6 := (hO 0 rfl).trans s0_5
 have s4_6 := (hO 4 rfl).trans s4_5
 have hsxo_6 := hsxo_5.ext' hR
 have hoxo_6 := hoxo_5.ext' hR
 have s14_6 : get a6 14 = xo := t14
 obtain ⟨x33, s33_6⟩ : ∃ x, get a6 33 = x := ⟨_, rfl⟩
 replace t33 : OwnT W32 wd5.heap.size 22 ([(((UInt32.ofNat (a).toNat) ||| (UInt32.ofNat ((UInt32.ofNat (b).toNat).toNat * 2 ^ 8))) ||| (UInt32.ofNat ((UInt32.ofNat (c).toNat).toNat * 2 ^ 16))) ||| (UInt32.ofNat ((UInt32.ofNat (d).toNat).toNat * 2 ^ 24))]) x33 wd6 := by rw [← s33_6]; exact t33
 have no_x33_xo : ∀ k, x33.ownBlock = some k → xo.ownBlock ≠ some k := fun k e e' => Nat.lt_irrefl _ (Nat.lt_of_lt_of_le (OwnT.block_lt hoxo_5 e').2 (OwnT.block_lt t33 e).1)
 have hsx33_6 := t33.sl.wide (Nat.zero_le _) (.inl rfl)
 have hox33_6 := OwnT.base t33 hE_5.size'
 clear hE_5 hN_5 hD_5 s0_5 s4_5 s11_5 hsxo_5 hoxo_5
 refine tail_put rfl rfl hN_6 hD_6 (by decide) (does_append (T := W32) (base := w0.heap.size) (xs := acc) (ys := [(((UInt32.ofNat (a).toNat) ||| (UInt32.ofNat ((UInt32.ofNat (b).toNat).toNat * 2 ^ 8))) ||| (UInt32.ofNat ((UInt32.ofNat (c).toNat).toNat * 2 ^ 16))) ||| (UInt32.ofNat ((UInt32.ofNat (d).toNat).toNat * 2 ^ 24))]) (v := xo) app_70 s14_6 hoxo_6 (SlT.at s33_6 hsx33_6) (by simp) (by simp only [List.length_append, List.length_cons, List.length_nil]; omega) (by simp only [List.length_append, List.length_cons, List.length_nil]; omega) hE_6.size' (fun x34 wd7 hX hox34_7 hk a7 hN_7 hD_7 hv hO => ?_))
 have hE_7 := hE_6.since hX (fun b hb => Nat.le_trans (Nat.le_refl _) (OwnT.block_lt hoxo_6 hb).1)
 have hox33_7 := OwnT.ext hox33_6 hX (fun k hk e => no_x33_xo k hk e)
 have no_x34_x33 : ∀ k, x34.ownBlock = some k → x33.ownBlock ≠ some k := fun k e e' => (hk k e).elim (fun h => no_x33_xo k e' h) (fun h => Nat.lt_irrefl _ (Nat.lt_of_lt_of_le (OwnT.block_lt hox33_6 e').2 h))
 have hsx33_7 := hox33_7.sl.wide (Nat.zero_le _) (.inl rfl)
 have hsx34_7 := hox34_7.sl.wide (Nat.zero_le _) (.inl rfl)
 rw [word_or] at hox34_7 hsx34_7
 have s34_7 := hv
 have s0_7 := (hO 0 rfl).trans s0_6
 have s4_7 := (hO 4 rfl).trans s4_6
 clear hO hv hX hk hN_6 hD_6 hE_6 hox33_6 s0_6 s4_6 s14_6 s33_6
 refine tail_put rfl rfl hN_7 hD_7 (by decide) (does_assign (V := x34) s34_7 (fun a8 hN_8 hD_8 hv hO => ?_))
 have s4_8 := hv
 have s0_8 := (hO 0 rfl).trans s0_7
 clear hO hv hN_7 hD_7 s0_7 s34_7 s4_7
 refine tail_nil ?_
 refine region_lex [] [(12, Pr.ex (str (m))), (13, Pr.ex (str (m.drop 4)))] 2 hN_8 hD_8 (by kernel_rfl) (by kernel_rfl) ?_ ?_
 refine Asks.cons ?_ (Asks.cons ?_ (Asks.zero _))
 exact Ask.plain rfl rfl fun aq wq hNq hO hR hT => does_move (V := str (m)) ((hO 0 rfl).trans s0_8) ⟨Ext.refl _, rfl⟩
 exact Ask.plain rfl rfl fun aq wq hNq hO hR hT => does_strLo (l := m) (k := ((4 : Nat) : Int)) Tryd.underlying9 (hT 12 rfl rfl) rfl (by omega) (by omega) ⟨Ext.refl _, rfl⟩
 intro a9 wd9 hN_9 hD_9 hO hR hA hU
 obtain ⟨_, t13, _⟩ := hA
 have hE_9 := hE_7.trans hR
 have s0_9 := (hO 0 rfl).trans s0_8
 have s4_9 := (hO 4 rfl).trans s4_8
 have hsx33_9 := hsx33_7.ext' hR
 have hsx34_9 := hsx34_7.ext' hR
 have hox33_9 := hox33_7.ext' hR
 have hox34_9 := hox34_7.ext' hR
 have s13_9 : get a9 13 = str (m.drop 4) := t13
 clear hE_7 hN_8 hD_8 s0_8 s4_8 hsx33_7 hsx34_7 hox33_7 hox34_7
 refine tail_put rfl rfl hN_9 hD_9 (by decide) (does_assign (V := str (m.drop 4)) s13_9 (fun a10 hN_10 hD_10 hv hO => ?_))
 have s0_10 := hv
 have s4_10 := (hO 4 rfl).trans s4_9
 clear hO hv hN_9 hD_9 s4_9 s13_9 s0_9
 refine tail_nil ?_
 exact ⟨_, by rw [hm4]; simp only [List.length_cons]; omega, m', (acc ++ [word a b c d]), x34, rfl, hN_10, hD_10, (by rw [s0_10, hm4]; rfl), s4_10, hE_9, hox34_9, by rw [← hm, words_step hm4, List.append_assoc]; rfl, by rw [hm4] at hm0; simp only [List.length_cons] at hm0; omega, by rw [hm4] at hal; simp only [List.length_cons, List.length_append, List.length_nil] at hal ⊢; omega⟩
 have hc1 := of_decide_eq_false hc1
 refine wp_exit ?_
 refine wp_seq ?_
 refine region_lex [] [(35, Pr.ex (xo)), (2, Pr.ex (xo)), (3, Pr.ex (i64 ((0 : Nat) : Int)))] 3 hN_5 hD_5 (by kernel_rfl) (by kernel_rfl) ?_ ?_
 refine Asks.cons ?_ (Asks.cons ?_ (Asks.cons ?_ (Asks.zero _)))
 exact Ask.plain rfl rfl fun aq wq hNq hO hR hT => does_move (V := xo) ((hO 4 rfl).trans s4_5) ⟨Ext.refl _, rfl⟩
 exact Ask.plain rfl rfl fun aq wq hNq hO hR hT => does_assign (V := xo) (hT 35 rfl rfl) ⟨Ext.refl _, rfl⟩
 exact Ask.plain rfl rfl fun aq wq hNq hO hR hT => does_assign (V := i64 ((0 : Nat) : Int)) rfl ⟨Ext.refl _, rfl⟩
 intro a11 wd11 hN_11 hD_11 hO hR hA hU
 obtain ⟨_, t2, t3, _⟩ := hA
 have hE_11 := hE_5.trans hR
 have hsxo_11 := hsxo_5.ext' hR
 have hoxo_11 := hoxo_5.ext' hR
 have s2_11 : get a11 2 = xo := t2
 have s3_11 : get a11 3 = i64 ((0 : Nat) : Int) := t3
 clear hE_5 hN_5 hD_5 s0_5 s4_5 s11_5 hsxo_5 hoxo_5
 refine tail_nil ?_
 refine wp_ret ?_
 refine res_two (V1 := xo) (V2 := i64 ((0 : Nat) : Int)) rfl hD_11 s2_11 s3_11 ?_
 have hz := words_nil (m := m) (by omega)
 rw [hz, List.append_nil] at hm
 have ho := hoxo_11
 rw [hm] at ho
 exact ⟨⟨_, _, rfl, ho, rfl⟩, hE_11⟩

end Go.Proofs.YtaeohnkfmachfabDoor
