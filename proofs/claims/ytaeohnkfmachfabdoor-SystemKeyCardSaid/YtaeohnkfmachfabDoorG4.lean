/- The walks of functions of the program: printed. -/
import Derived.Test.YtaeohnkfmachfabDoorG3
import Derived.Test.YtaeohnkfmachfabDoorF0
set_option maxRecDepth 100000
namespace Go.Proofs.YtaeohnkfmachfabDoor
open Go Go.RowKit Sk Sd
theorem bytes_ (l : List UInt32) (x1 : Value) (w0 : World) (hx1 : SlT W32 0 0 l x1 w0) (hn : l.length ≤ 1048576) :
    Gives Tryd.prog 56 #[x1] w0 (Pr.ex (str (wbytes l))) := by
 refine enter (N := 33) Tryd.func56 rfl rfl ?_
 intro a0 hN_0 hD_0 hA
 have s0_0 : get a0 0 = x1 := hA 0 _ rfl
 clear hA
 have hE_0 : Ext w0 w0 := Ext.refl w0
 have hsx1_0 := hx1.close
 refine wp_seq ?_
 refine region_lex [] [(2, Pr.ex (str (([] : List UInt8))))] 1 hN_0 hD_0 (by kernel_rfl) (by kernel_rfl) ?_ ?_
 refine Asks.cons ?_ (Asks.zero _)
 exact Ask.plain rfl rfl fun aq wq hNq hO hR hT => does_assign (V := str (([] : List UInt8))) rfl ⟨Ext.refl _, rfl⟩
 intro a1 wd1 hN_1 hD_1 hO hR hA hU
 obtain ⟨_, _⟩ := hA
 have hE_1 := hE_0.trans hR
 have s0_1 := (hO 0 rfl).trans s0_0
 have hsx1_1 := hsx1_0.ext' hR
 clear hE_0 hN_0 hD_0 s0_0 hsx1_0
 refine tail_nil ?_
 refine wp_seq ?_
 refine region_lex [] [(6, Pr.ex (x1)), (7, Pr.ex (i64 ((l.length : Nat) : Int))), (8, Pr.ex (i64 ((4 * l.length : Nat) : Int))), (9, Pr.own' W8 wd1.heap.size 5 ([])), (3, Pr.own' W8 wd1.heap.size 5 ([]))] 5 hN_1 hD_1 (by kernel_rfl) (by kernel_rfl) ?_ ?_
 refine Asks.cons ?_ (Asks.cons ?_ (Asks.cons ?_ (Asks.cons ?_ (Asks.cons ?_ (Asks.zero _)))))
 exact Ask.plain rfl rfl fun aq wq hNq hO hR hT => does_move (V := x1) ((hO 0 rfl).trans s0_1) ⟨Ext.refl _, rfl⟩
 exact Ask.plain rfl rfl fun aq wq hNq hO hR hT => does_len (T := W32) (xs := l) sli_70 (SlT.at (hT 6 rfl rfl) (hsx1_1.ext' hR)) ⟨Ext.refl _, rfl⟩
 exact Ask.plain rfl rfl fun aq wq hNq hO hR hT => does_mul (a := ((4 : Nat) : Int)) (b := ((l.length : Nat) : Int)) (r := ((4 * l.length : Nat) : Int)) rfl (hT 7 rfl rfl) (by simp) (by omega) (by omega) ⟨Ext.refl _, rfl⟩
 exact Ask.plain rfl rfl fun aq wq hNq hO hR hT => does_make0 (T := W8) (c := 4 * l.length) app_85 rfl rfl (hT 8 rfl rfl) (by omega) (by unfold maxLen; omega) (fun v w2 he _ ho => ⟨he, OwnT.base ho hR.size'⟩)
 exact Ask.plain rfl rfl fun aq wq hNq hO hR hT => does_assign rfl ⟨Ext.refl _, (hT 9 rfl rfl)⟩
 intro a2 wd2 hN_2 hD_2 hO hR hA hU
 obtain ⟨_, _, _, _, t3, _⟩ := hA
 have hE_2 := hE_1.trans hR
 have s0_2 := (hO 0 rfl).trans s0_1
 have hsx1_2 := hsx1_1.ext' hR
 obtain ⟨x3, s3_2⟩ : ∃ x, get a2 3 = x := ⟨_, rfl⟩
 replace t3 : OwnT W8 wd1.heap.size 5 ([]) x3 wd2 := by rw [← s3_2]; exact t3
 have hsx3_2 := t3.sl.wide (Nat.zero_le _) (.inl rfl)
 have hox3_2 := OwnT.base t3 hE_1.size'
 clear hE_1 hN_1 hD_1 s0_1 hsx1_1
 refine tail_nil ?_
 refine wp_seq ?_
 refine wp_seq ?_
 refine region_lex [] [(10, Pr.ex (x1)), (11, Pr.ex (i64 ((l.length : Nat) : Int))), (12, Pr.ex (i64 ((0 : Nat) : Int)))] 3 hN_2 hD_2 (by kernel_rfl) (by kernel_rfl) ?_ ?_
 refine Asks.cons ?_ (Asks.cons ?_ (Asks.cons ?_ (Asks.zero _)))
 exact Ask.plain rfl rfl fun aq wq hNq hO hR hT => does_move (V := x1) ((hO 0 rfl).trans s0_2) ⟨Ext.refl _, rfl⟩
 exact Ask.plain rfl rfl fun aq wq hNq hO hR hT => does_len (T := W32) (xs := l) sli_70 (SlT.at (hT 10 rfl rfl) (hsx1_2.ext' hR)) ⟨Ext.refl _, rfl⟩
 exact Ask.plain rfl rfl fun aq wq hNq hO hR hT => does_move (V := i64 ((0 : Nat) : Int)) rfl ⟨Ext.refl _, rfl⟩
 intro a3 wd3 hN_3 hD_3 hO hR hA hU
 obtain ⟨t10, t11, t12, _⟩ := hA
 have hE_3 := hE_2.trans hR
 have s3_3 := (hO 3 rfl).trans s3_2
 have hsx1_3 := hsx1_2.ext' hR
 have hsx3_3 := hsx3_2.ext' hR
 have hox3_3 := hox3_2.ext' hR
 have s10_3 : get a3 10 = x1 := t10
 have s11_3 : get a3 11 = i64 ((l.length : Nat) : Int) := t11
 have s12_3 : get a3 12 = i64 ((0 : Nat) : Int) := t12
 clear hE_2 hN_2 hD_2 s0_2 s3_2 hsx1_2 hsx3_2 hox3_2
 refine tail_nil ?_
 refine wp_block ?_
 refine loop_g (fun mz az wz => ∃ k : Nat, ∃ xo : Value, mz = l.length - k ∧ (az.tmps.size = 33) ∧ (az.defers = []) ∧ (get az 3 = xo) ∧ (get az 10 = x1) ∧ (get az 11 = i64 ((l.length : Nat) : Int)) ∧ (get az 12 = i64 ((k : Nat) : Int)) ∧ (Ext w0 wz) ∧ (SlT W32 0 (w0.heap.size + 1) (l) x1 wz) ∧ (OwnT W8 w0.heap.size 5 (wbytes (l.take k)) xo wz) ∧ (k ≤ l.length)) ?_ ?_
 exact ⟨_, 0, x3, rfl, hN_3, hD_3, s3_3, s10_3, s11_3, s12_3, hE_3, hsx1_3, hox3_3, Nat.zero_le _⟩
 rintro mz a4 wd4 ⟨k, xo, rfl, hN_4, hD_4, s3_4, s10_4, s11_4, s12_4, hE_4, hsx1_4, hoxo_4, hk⟩
 have hsxo_4 := hoxo_4.sl.wide (Nat.zero_le _) (.inl rfl)
 refine wp_seq ?_
 refine region_lex [] [(13, Pr.ex (Value.bool (decide (((k : Nat) : Int) < ((l.length : Nat) : Int)))))] 1 hN_4 hD_4 (by kernel_rfl) (by kernel_rfl) ?_ ?_
 refine Asks.cons ?_ (Asks.zero _)
 exact Ask.plain rfl rfl fun aq wq hNq hO hR hT => does_lss (a := ((k : Nat) : Int)) (b := ((l.length : Nat) : Int)) ((hO 12 rfl).trans s12_4) ((hO 11 rfl).trans s11_4) ⟨Ext.refl _, rfl⟩
 intro a5 wd5 hN_5 hD_5 hO hR hA hU
 obtain ⟨t13, _⟩ := hA
 have hE_5 := hE_4.trans hR
 have s3_5 := (hO 3 rfl).trans s3_4
 have s10_5 := (hO 10 rfl).trans s10_4
 have s11_5 := (hO 11 rfl).trans s11_4
 have s12_5 := (hO 12 rfl).trans s12_4
 have hsx1_5 := hsx1_4.ext' hR
 have hsxo_5 := hsxo_4.ext' hR
 have hoxo_5 := hoxo_4.ext' hR
 have s13_5 : get a5 13 = Value.bool (decide (((k : Nat) : Int) < ((l.length : Nat) : Int))) := t13
 clear hE_4 hN_4 hD_4 s3_4 s10_4 s11_4 s12_4 hsx1_4 hsxo_4 hoxo_4
 refine tail_nil ?_
 refine wp_seq ?_
 refine wp_if (B := decide (((k : Nat) : Int) < ((l.length : Nat) : Int))) s13_5 (fun hc0 => ?_) (fun hc0 => ?_)
 have hc0 := of_decide_eq_true hc0
 obtain ⟨x, hx⟩ := get_of_lt (l := l) (k := k) (by omega)
 refine wp_skip ?_
 refine wp_seq ?_
 refine wp_block ?_
 refine wp_seq ?_
 refine region_lex [] [(14, Pr.pt' 0 (w0.heap.size + 1) [w32 (x)]), (15, Pr.ex (w32 (x))), (5, Pr.ex (w32 (x)))] 3 hN_5 hD_5 (by kernel_rfl) (by kernel_rfl) ?_ ?_
 refine Asks.cons ?_ (Asks.cons ?_ (Asks.cons ?_ (Asks.zero _)))
 exact Ask.plain rfl rfl fun aq wq hNq hO hR hT => does_indexSl (T := W32) (xs := l) (i := ((k : Nat) : Int)) (X := x) sli_70 rfl (SlT.at ((hO 10 rfl).trans s10_5) (hsx1_5.ext' hR)) ((hO 12 rfl).trans s12_5) (by omega) hx (fun v h => ⟨Ext.refl _, h⟩)
 exact Ask.plain rfl rfl fun aq wq hNq hO hR hT => does_loadP1 (V := w32 (x)) (hT 14 rfl rfl) one_22 ⟨Ext.refl _, rfl⟩
 exact Ask.plain rfl rfl fun aq wq hNq hO hR hT => does_assign (V := w32 (x)) (hT 15 rfl rfl) ⟨Ext.refl _, rfl⟩
 intro a6 wd6 hN_6 hD_6 hO hR hA hU
 obtain ⟨_, _, t5, _⟩ := hA
 have hE_6 := hE_5.trans hR
 have s3_6 := (hO 3 rfl).trans s3_5
 have s10_6 := (hO 10 rfl).trans s10_5
 have s11_6 := (hO 11 rfl).trans s11_5
 have s12_6 := (hO 12 rfl).trans s12_5
 have hsx1_6 := hsx1_5.ext' hR
 have hsxo_6 := hsxo_5.ext' hR
 have hoxo_6 := hoxo_5.ext' hR
 have s5_6 : get a6 5 = w32 (x) := t5
 clear hE_5 hN_5 hD_5 s3_5 s10_5 s11_5 s12_5 s13_5 hsx1_5 hsxo_5 hoxo_5
 refine tail_nil ?_
 refine region_lex [] [(16, Pr.ex (xo)), (17, Pr.ex (w32 (x))), (18, Pr.ex (w8 (UInt8.ofNat (x).toNat))), (19, Pr.ex (w32 (x))), (20, Pr.ex (w32 (UInt32.ofNat ((x).toNat / 2 ^ 8)))), (21, Pr.ex (w8 (UInt8.ofNat (UInt32.ofNat ((x).toNat / 2 ^ 8)).toNat))), (22, Pr.ex (w32 (x))), (23, Pr.ex (w32 (UInt32.ofNat ((x).toNat / 2 ^ 16)))), (24, Pr.ex (w8 (UInt8.ofNat (UInt32.ofNat ((x).toNat / 2 ^ 16)).toNat))), (25, Pr.ex (w32 (x))), (26, Pr.ex (w32 (UInt32.ofNat ((x).toNat / 2 ^ 24)))), (27, Pr.ex (w8 (UInt8.ofNat (UInt32.ofNat ((x).toNat / 2 ^ 24)).toNat))), (28, Pr.own' W8 wd6.heap.size 5 ([UInt8.ofNat (x).toNat, UInt8.ofNat (UInt32.ofNat ((x).toNat / 2 ^ 8)).toNat, UInt8.ofNat (UInt32.ofNat ((x).toNat / 2 ^ 16)).toNat, UInt8.ofNat (UInt32.ofNat ((x).toNat / 2 ^ 24)).toNat]))] 13 hN_6 hD_6 (by kernel_rfl) (by kernel_rfl) ?_ ?_
 refine Asks.cons ?_ (Asks.cons ?_ (Asks.cons ?_ (Asks.cons ?_ (Asks.cons ?_ (Asks.cons ?_ (Asks.cons ?_ (Asks.cons ?_ (Asks.cons ?_ (Asks.cons ?_ (Asks.cons ?_ (Asks.cons ?_ (Asks.cons ?_ (Asks.zero _)))))))))))))
 exact Ask.plain rfl rfl fun aq wq hNq hO hR hT => does_move (V := xo) ((hO 3 rfl).trans s3_6) ⟨Ext.refl _, rfl⟩
 exact Ask.plain rfl rfl fun aq wq hNq hO hR hT => does_move (V := w32 (x)) ((hO 5 rfl).trans s5_6) ⟨Ext.refl _, rfl⟩
 exact Ask.plain rfl rfl fun aq wq hNq hO hR hT => does_conv ⟨_, Tryd.underlying22⟩ Tryd.underlying5 (hT 17 rfl rfl) (wrap_u8 _) ⟨Ext.refl _, rfl⟩
 exact Ask.plain rfl rfl fun aq wq hNq hO hR hT => does_move (V := w32 (x)) ((hO 5 rfl).trans s5_6) ⟨Ext.refl _, rfl⟩
 exact Ask.plain rfl rfl fun aq wq hNq hO hR hT => does_shr32 (a := x) (b := 8) (hT 19 rfl rfl) rfl (by decide) ⟨Ext.refl _, rfl⟩
 exact Ask.plain rfl rfl fun aq wq hNq hO hR hT => does_conv ⟨_, Tryd.underlying22⟩ Tryd.underlying5 (hT 20 rfl rfl) (wrap_u8 _) ⟨Ext.refl _, rfl⟩
 exact Ask.plain rfl rfl fun aq wq hNq hO hR hT => does_move (V := w32 (x)) ((hO 5 rfl).trans s5_6) ⟨Ext.refl _, rfl⟩
 exact Ask.plain rfl rfl fun aq wq hNq hO hR hT => does_shr32 (a := x) (b := 16) (hT 22 rfl rfl) rfl (by decide) ⟨Ext.refl _, rfl⟩
 exact Ask.plain rfl rfl fun aq wq hNq hO hR hT => does_conv ⟨_, Tryd.underlying22⟩ Tryd.underlying5 (hT 23 rfl rfl) (wrap_u8 _) ⟨Ext.refl _, rfl⟩
 exact Ask.plain rfl rfl fun aq wq hNq hO hR hT => does_move (V := w32 (x)) ((hO 5 rfl).trans s5_6) ⟨Ext.refl _, rfl⟩
 exact Ask.plain rfl rfl fun aq wq hNq hO hR hT => does_shr32 (a := x) (b := 24) (hT 25 rfl rfl) rfl (by decide) ⟨Ext.refl _, rfl⟩
 exact Ask.plain rfl rfl fun aq wq hNq hO hR hT => does_conv ⟨_, Tryd.underlying22⟩ Tryd.underlying5 (hT 26 rfl rfl) (wrap_u8 _) ⟨Ext.refl _, rfl⟩
 exact Ask.plain rfl rfl fun aq wq hNq hO hR hT => does_sliceN (T := W8) (xs := [UInt8.ofNat (x).toNat, UInt8.ofNat (UInt32.ofNat ((x).toNat / 2 ^ 8)).toNat, UInt8.ofNat (UInt32.ofNat ((x).toNat / 2 ^ 16)).toNat, UInt8.ofNat (UInt32.ofNat ((x).toNat / 2 ^ 24)).toNat]) (vs := [w8 (UInt8.ofNat (x).toNat), w8 (UInt8.ofNat (UInt32.ofNat ((x).toNat / 2 ^ 8)).toNat), w8 (UInt8.ofNat (UInt32.ofNat ((x).toNat / 2 ^ 16)).toNat), w8 (UInt8.ofNat (UInt32.ofNat ((x).toNat / 2 ^ 24)).toNat)]) app_85 rfl (parts4 (hT 18 rfl rfl) (hT 21 rfl rfl) (hT 24 rfl rfl) (hT 27 rfl rfl)) rfl (by decide) (by decide) rfl (fun v w2 he _ ho => ⟨he, OwnT.base ho hR.size'⟩)
 intro a7 wd7 hN_7 hD_7 hO hR hA hU
 obtain ⟨t16, _, _, _, _, _, _, _, _, _, _, _, t28, _⟩ := hA
 have hE_7 := hE_6.trans hR
 have s3_7 := (hO 3 rfl).trans s3_6
 have s10_7 := (hO 10 rfl).trans s10_6
 have s11_7 := (hO 11 rfl).trans s11_6
 have s12_7 := (hO 12 rfl).trans s12_6
 have hsx1_7 := hsx1_6.ext' hR
 have hsxo_7 := hsxo_6.ext' hR
 have hoxo_7 := hoxo_6.ext' hR
 have s16_7 : get a7 16 = xo := t16
 obtain ⟨x28, s28_7⟩ : ∃ x, get a7 28 = x := ⟨_, rfl⟩
 replace t28 : OwnT W8 wd6.heap.size 5 ([UInt8.ofNat (x).toNat, UInt8.ofNat (UInt32.ofNat ((x).toNat / 2 ^ 8)).toNat, UInt8.ofNat (UInt32.ofNat ((x).toNat / 2 ^ 16)).toNat, UInt8.ofNat (UInt32.ofNat ((x).toNat / 2 ^ 24)).toNat]) x28 wd7 := by rw [← s28_7]; exact t28
 have no_x28_xo : ∀ k, x28.ownBlock = some k → xo.ownBlock ≠ some k := fun k e e' => Nat.lt_irrefl _ (Nat.lt_of_lt_of_le (OwnT.block_lt hoxo_6 e').2 (OwnT.block_lt t28 e).1)
 have hsx28_7 := t28.sl.wide (Nat.zero_le _) (.inl rfl)
 have hox28_7 := OwnT.base t28 hE_6.size'
 clear hE_6 hN_6 hD_6 s3_6 s5_6 s10_6 s11_6 s12_6 hsx1_6 hsxo_6 hoxo_6
 refine tail_put rfl rfl hN_7 hD_7 (by decide) (does_append (T := W8) (base := w0.heap.size) (xs := wbytes (l.take k)) (ys := [UInt8.ofNat (x).toNat, UInt8.ofNat (UInt32.ofNat ((x).toNat / 2 ^ 8)).toNat, UInt8.ofNat (UInt32.ofNat ((x).toNat / 2 ^ 16)).toNat, UInt8.ofNat (UInt32.ofNat ((x).toNat / 2 ^ 24)).toNat]) (v := xo) app_85 s16_7 hoxo_7 (SlT.at s28_7 hsx28_7) (by simp) (by simp only [List.length_append, bytes_length, List.length_take, List.length_cons, List.length_nil]; omega) (by simp only [List.length_append, bytes_length, List.length_take, List.length_cons, List.length_nil]; omega) hE_7.size' (fun x29 wd8 hX hox29_8 hk a8 hN_8 hD_8 hv hO => ?_))
 have hE_8 := hE_7.since hX (fun b hb => Nat.le_trans (Nat.le_refl _) (OwnT.block_lt hoxo_7 hb).1)
 have hsx1_8 := SlT.overOwn hsx1_7 hoxo_7 hX
 have hox28_8 := OwnT.ext hox28_7 hX (fun k hk e => no_x28_xo k hk e)
 have no_x29_x28 : ∀ k, x29.ownBlock = some k → x28.ownBlock ≠ some k := fun k e e' => (hk k e).elim (fun h => no_x28_xo k e' h) (fun h => Nat.lt_irrefl _ (Nat.lt_of_lt_of_le (OwnT.block_lt hox28_7 e').2 h))
 have hsx28_8 := hox28_8.sl.wide (Nat.zero_le _) (.inl rfl)
 have hsx29_8 := hox29_8.sl.wide (Nat.zero_le _) (.inl rfl)
 rw [bytes_step hx] at hox29_8 hsx29_8
 have s29_8 := hv
 have s3_8 := (hO 3 rfl).trans s3_7
 have s10_8 := (hO 10 rfl).trans s10_7
 have s11_8 := (hO 11 rfl).trans s11_7
 have s12_8 := (hO 12 rfl).trans s12_7
 clear hO hv hX hk hN_7 hD_7 hE_7 hsx1_7 hox28_7 s3_7 s10_7 s11_7 s12_7 s16_7 s28_7
 refine tail_put rfl rfl hN_8 hD_8 (by decide) (does_assign (V := x29) s29_8 (fun a9 hN_9 hD_9 hv hO => ?_))
 have s3_9 := hv
 have s10_9 := (hO 10 rfl).trans s10_8
 have s11_9 := (hO 11 rfl).trans s11_8
 have s12_9 := (hO 12 rfl).trans s12_8
 clear hO hv hN_8 hD_8 s10_8 s11_8 s12_8 s29_8 s3_8
 refine tail_nil ?_
 refine region_lex [] [(30, Pr.ex (i64 ((k + 1 : Nat) : Int)))] 1 hN_9 hD_9 (by kernel_rfl) (by kernel_rfl) ?_ ?_
 refine Asks.cons ?_ (Asks.zero _)
 exact Ask.plain rfl rfl fun aq wq hNq hO hR hT => does_add (a := ((k : Nat) : Int)) (b := ((1 : Nat) : Int)) (r := ((k + 1 : Nat) : Int)) ((hO 12 rfl).trans s12_9) rfl (by omega) (by omega) (by omega) ⟨Ext.refl _, rfl⟩
 intro a10 wd10 hN_10 hD_10 hO hR hA hU
 obtain ⟨t30, _⟩ := hA
 have hE_10 := hE_8.trans hR
 have s3_10 := (hO 3 rfl).trans s3_9
 have s10_10 := (hO 10 rfl).trans s10_9
 have s11_10 := (hO 11 rfl).trans s11_9
 have s12_10 := (hO 12 rfl).trans s12_9
 have hsx1_10 := hsx1_8.ext' hR
 have hsx28_10 := hsx28_8.ext' hR
 have hsx29_10 := hsx29_8.ext' hR
 have hox28_10 := hox28_8.ext' hR
 have hox29_10 := hox29_8.ext' hR
 have s30_10 : get a10 30 = i64 ((k + 1 : Nat) : Int) := t30
 clear hE_8 hN_9 hD_9 s3_9 s10_9 s11_9 s12_9 hsx1_8 hsx28_8 hsx29_8 hox28_8 hox29_8
 refine tail_put rfl rfl hN_10 hD_10 (by decide) (does_move (V := i64 ((k + 1 : Nat) : Int)) s30_10 (fun a11 hN_11 hD_11 hv hO => ?_))
 have s12_11 := hv
 have s3_11 := (hO 3 rfl).trans s3_10
 have s10_11 := (hO 10 rfl).trans s10_10
 have s11_11 := (hO 11 rfl).trans s11_10
 clear hO hv hN_10 hD_10 s3_10 s10_10 s11_10 s30_10 s12_10
 refine tail_nil ?_
 exact ⟨_, by omega, k + 1, x29, rfl, hN_11, hD_11, s3_11, s10_11, s11_11, s12_11, hE_10, hsx1_10, hox29_10, by omega⟩
 have hc0 := of_decide_eq_false hc0
 have hk2 : l.take k = l := List.take_of_length_le (by omega)
 refine wp_exit ?_
 refine wp_seq ?_
 refine region_lex [] [(31, Pr.ex (xo)), (32, Pr.ex (str (wbytes (l.take k)))), (2, Pr.ex (str (wbytes (l.take k))))] 3 hN_5 hD_5 (by kernel_rfl) (by kernel_rfl) ?_ ?_
 refine Asks.cons ?_ (Asks.cons ?_ (Asks.cons ?_ (Asks.zero _)))
 exact Ask.plain rfl rfl fun aq wq hNq hO hR hT => does_move (V := xo) ((hO 3 rfl).trans s3_5) ⟨Ext.refl _, rfl⟩
 exact Ask.plain rfl rfl fun aq wq hNq hO hR hT => does_string (l := wbytes (l.take k)) Tryd.underlying9 Tryd.underlying85 Tryd.underlying5 (SlT.at (hT 31 rfl rfl) (hsxo_5.ext' hR)) ⟨Ext.refl _, rfl⟩
 exact Ask.plain rfl rfl fun aq wq hNq hO hR hT => does_assign (V := str (wbytes (l.take k))) (hT 32 rfl rfl) ⟨Ext.refl _, rfl⟩
 intro a12 wd12 hN_12 hD_12 hO hR hA hU
 obtain ⟨_, _, t2, _⟩ := hA
 have hE_12 := hE_5.trans hR
 have hsx1_12 := hsx1_5.ext' hR
 have hsxo_12 := hsxo_5.ext' hR
 have hoxo_12 := hoxo_5.ext' hR
 have s2_12 : get a12 2 = str (wbytes (l.take k)) := t2
 clear hE_5 hN_5 hD_5 s3_5 s10_5 s11_5 s12_5 s13_5 hsx1_5 hsxo_5 hoxo_5
 refine tail_nil ?_
 refine wp_ret ?_
 refine res_one (V := str (wbytes (l.take k))) rfl hD_12 s2_12 ?_
 exact ⟨by show str _ = str _; rw [hk2], hE_12⟩

theorem words_ (s : List UInt8) (w0 : World) (h4 : s.length % 4 = 0) (hn : s.length ≤ 4194304) :
    Gives Tryd.prog 60 #[str (s)] w0 (Pr.t2 (Pr.own' W32 w0.heap.size 22 (words s)) (Pr.ex (i64 ((0 : Nat) : Int)))) := by
 refine enter (N := 36) Tryd.func60 rfl rfl ?_
 intro a0 hN_0 hD_0 hA
 have s0_0 : get a0 0 = str (s) := hA 0 _ rfl
 clear hA
 have hE_0 : Ext w0 w0 := Ext.refl w0
 refine wp_seq ?_
 refine region_lex [] [(2, Pr.ex (Value.slice none 0 0)), (3, Pr.ex (i64 ((0 : Nat) : Int)))] 2 hN_0 hD_0 (by kernel_rfl) (by kernel_rfl) ?_ ?_
 refine Asks.cons ?_ (Asks.cons ?_ (Asks.zero _))
 exact Ask.plain rfl rfl fun aq wq hNq hO hR hT => does_assign (V := Value.slice none 0 0) rfl ⟨Ext.refl _, rfl⟩
 exact Ask.plain rfl rfl fun aq wq hNq hO hR hT => does_assign (V := i64 ((0 : Nat) : Int)) rfl ⟨Ext.refl _, rfl⟩
 intro a1 wd1 hN_1 hD_1 hO hR hA hU
 obtain ⟨_, _, _⟩ := hA
 have hE_1 := hE_0.trans hR
 have s0_1 := (hO 0 rfl).trans s0_0
 clear hE_0 hN_0 hD_0 s0_0
 refine tail_nil ?_
 refine wp_seq ?_
 refine wp_seq ?_
 refine region_lex [] [(5, Pr.ex (str (s))), (6, Pr.ex (i64 ((s.length : Nat) : Int))), (7, Pr.ex (i64 ((s.length % 4 : Nat) : Int))), (8, Pr.ex (Value.bool (!decide (((s.length % 4 : Nat) : Int) = ((0 : Nat) : Int)))))] 4 hN_1 hD_1 (by kernel_rfl) (by kernel_rfl) ?_ ?_
 refine Asks.cons ?_ (Asks.cons ?_ (Asks.cons ?_ (Asks.cons ?_ (Asks.zero _))))
 exact Ask.plain rfl rfl fun aq wq hNq hO hR hT => does_move (V := str (s)) ((hO 0 rfl).trans s0_1) ⟨Ext.refl _, rfl⟩
 exact Ask.plain rfl rfl fun aq wq hNq hO hR hT => does_lenStr (l := s) Tryd.underlying9 (hT 5 rfl rfl) ⟨Ext.refl _, rfl⟩
 exact Ask.plain rfl rfl fun aq wq hNq hO hR hT => does_rem (k := .i64) (a := ((s.length : Nat) : Int)) (b := ((4 : Nat) : Int)) (r := ((s.length % 4 : Nat) : Int)) (hT 6 rfl rfl) rfl (by omega) (by omega) (by omega) ⟨Ext.refl _, rfl⟩
 exact Ask.plain rfl rfl fun aq wq hNq hO hR hT => does_neq (a := ((s.length % 4 : Nat) : Int)) (b := ((0 : Nat) : Int)) (hT 7 rfl rfl) rfl ⟨Ext.refl _, rfl⟩
 intro a2 wd2 hN_2 hD_2 hO hR hA hU
 obtain ⟨_, _, _, t8, _⟩ := hA
 have hE_2 := hE_1.trans hR
 have s0_2 := (hO 0 rfl).trans s0_1
 have s8_2 : get a2 8 = Value.bool (!decide (((s.length % 4 : Nat) : Int) = ((0 : Nat) : Int))) := t8
 clear hE_1 hN_1 hD_1 s0_1
 refine tail_nil ?_
 refine wp_if (B := !decide (((s.length % 4 : Nat) : Int) = ((0 : Nat) : Int))) s8_2 (fun hc0 => ?_) (fun hc0 => ?_)
 have hc0 := of_decide_eq_false (bn hc0)
 omega
 have hc0 := of_decide_eq_true (bn' hc0)
 refine wp_skip ?_
 refine wp_seq ?_
 refine region_lex [] [(4, Pr.ex (Value.slice none 0 0))] 1 hN_2 hD_2 (by kernel_rfl) (by kernel_rfl) ?_ ?_
 refine Asks.cons ?_ (Asks.zero _)
 exact Ask.plain rfl rfl fun aq wq hNq hO hR hT => does_assign (V := Value.slice none 0 0) rfl ⟨Ext.refl _, rfl⟩
 intro a3 wd3 hN_3 hD_3 hO hR hA hU
 obtain ⟨t4, _⟩ := hA
 have hE_3 := hE_2.trans hR
 have s0_3 := (hO 0 rfl).trans s0_2
 have s4_3 : get a3 4 = Value.slice none 0 0 := t4
 clear hE_2 hN_2 hD_2 s0_2 s8_2
 refine tail_nil ?_
 refine wp_seq ?_
 refine wp_block ?_
 refine loop_g (fun mz az wz => ∃ m : List UInt8, ∃ acc : List UInt32, ∃ xo : Value, mz = m.length ∧ (az.tmps.size = 36) ∧ (az.defers = []) ∧ (get az 0 = str (m)) ∧ (get az 4 = xo) ∧ (Ext w0 wz) ∧ (OwnT W32 w0.heap.size 22 (acc) xo wz) ∧ (acc ++ words m = words s) ∧ (m.length % 4 = 0) ∧ (acc.length * 4 + m.length ≤ 4194304)) ?_ ?_
 exact ⟨_, s, [], (Value.slice none 0 0), rfl, hN_3, hD_3, s0_3, s4_3, hE_3, (OwnT.nil W32 w0.heap.size 22 _), rfl, h4, by simpa using hn⟩
 rintro mz a4 wd4 ⟨m, acc, xo, rfl, hN_4, hD_4, s0_4, s4_4, hE_4, hoxo_4, hm, hm0, hal⟩
 have hsxo_4 := hoxo_4.sl.wide (Nat.zero_le _) (.inl rfl)
 refine wp_seq ?_
 refine wp_seq ?_
 refine region_lex [] [(9, Pr.ex (str (m))), (10, Pr.ex (i64 ((m.length : Nat) : Int))), (11, Pr.ex (Value.bool (decide (((0 : Nat) : Int) < ((m.length : Nat) : Int)))))] 3 hN_4 hD_4 (by kernel_rfl) (by kernel_rfl) ?_ ?_
 refine Asks.cons ?_ (Asks.cons ?_ (Asks.cons ?_ (Asks.zero _)))
 exact Ask.plain rfl rfl fun aq wq hNq hO hR hT => does_move (V := str (m)) ((hO 0 rfl).trans s0_4) ⟨Ext.refl _, rfl⟩
 exact Ask.plain rfl rfl fun aq wq hNq hO hR hT => does_lenStr (l := m) Tryd.underlying9 (hT 9 rfl rfl) ⟨Ext.refl _, rfl⟩
 exact Ask.plain rfl rfl fun aq wq hNq hO hR hT => does_gtr (a := ((m.length : Nat) : Int)) (b := ((0 : Nat) : Int)) (hT 10 rfl rfl) rfl ⟨Ext.refl _, rfl⟩
 intro a5 wd5 hN_5 hD_5 hO hR hA hU
 obtain ⟨_, _, t11, _⟩ := hA
 have hE_5 := hE_4.trans hR
 have s0_5 := (hO 0 rfl).trans s0_4
 have s4_5 := (hO 4 rfl).trans s4_4
 have hsxo_5 := hsxo_4.ext' hR
 have hoxo_5 := hoxo_4.ext' hR
 have s11_5 : get a5 11 = Value.bool (decide (((0 : Nat) : Int) < ((m.length : Nat) : Int))) := t11
 clear hE_4 hN_4 hD_4 s0_4 s4_4 hsxo_4 hoxo_4
 refine tail_nil ?_
 refine wp_if (B := decide (((0 : Nat) : Int) < ((m.length : Nat) : Int))) s11_5 (fun hc1 => ?_) (fun hc1 => ?_)
 have hc1 := of_decide_eq_true hc1
 obtain ⟨a, b, c, d, m', hm4⟩ := four_of (l := m) (by omega)
 refine wp_skip ?_
 refine wp_seq ?_
 refine wp_block ?_
 refine region_any [] [(14, Pr.ex (xo)), (15, Pr.ex (str (m))), (16, Pr.ex (w8 (a))), (17, Pr.ex (w32 (UInt32.ofNat (a).toNat))), (18, Pr.ex (str (m))), (19, Pr.ex (w8 (b))), (20, Pr.ex (w32 (UInt32.ofNat (b).toNat))), (21, Pr.ex (w32 (UInt32.ofNat ((UInt32.ofNat (b).toNat).toNat * 2 ^ 8)))), (22, Pr.ex (w32 ((UInt32.ofNat (a).toNat) ||| (UInt32.ofNat ((UInt32.ofNat (b).toNat).toNat * 2 ^ 8))))), (23, Pr.ex (str (m))), (24, Pr.ex (w8 (c))), (25, Pr.ex (w32 (UInt32.ofNat (c).toNat))), (26, Pr.ex (w32 (UInt32.ofNat ((UInt32.ofNat (c).toNat).toNat * 2 ^ 16)))), (27, Pr.ex (w32 (((UInt32.ofNat (a).toNat) ||| (UInt32.ofNat ((UInt32.ofNat (b).toNat).toNat * 2 ^ 8))) ||| (UInt32.ofNat ((UInt32.ofNat (c).toNat).toNat * 2 ^ 16))))), (28, Pr.ex (str (m))), (29, Pr.ex (w8 (d))), (30, Pr.ex (w32 (UInt32.ofNat (d).toNat))), (31, Pr.ex (w32 (UInt32.ofNat ((UInt32.ofNat (d).toNat).toNat * 2 ^ 24)))), (32, Pr.ex (w32 ((((UInt32.ofNat (a).toNat) ||| (UInt32.ofNat ((UInt32.ofNat (b).toNat).toNat * 2 ^ 8))) ||| (UInt32.ofNat ((UInt32.ofNat (c).toNat).toNat * 2 ^ 16))) ||| (UInt32.ofNat ((UInt32.ofNat (d).toNat).toNat * 2 ^ 24))))), (33, Pr.own' W32 wd5.heap.size 22 ([(((UInt32.ofNat (a).toNat) ||| (UInt32.ofNat ((UInt32.ofNat (b).toNat).toNat * 2 ^ 8))) ||| (UInt32.ofNat ((UInt32.ofNat (c).toNat).toNat * 2 ^ 16))) ||| (UInt32.ofNat ((UInt32.ofNat (d).toNat).toNat * 2 ^ 24))]))] 20 mixed hN_5 hD_5 (by kernel_rfl) (by kernel_rfl) (by kernel_rfl) ?_ ?_
 refine Asks.cons ?_ (Asks.cons ?_ (Asks.cons ?_ (Asks.cons ?_ (Asks.cons ?_ (Asks.cons ?_ (Asks.cons ?_ (Asks.cons ?_ (Asks.cons ?_ (Asks.cons ?_ (Asks.cons ?_ (Asks.cons ?_ (Asks.cons ?_ (Asks.cons ?_ (Asks.cons ?_ (Asks.cons ?_ (Asks.cons ?_ (Asks.cons ?_ (Asks.cons ?_ (Asks.cons ?_ (Asks.zero _))))))))))))))))))))
 exact Ask.plainD rfl rfl fun aq wq hNq hO hR hT => does_move (V := xo) ((hO 4 rfl).trans s4_5) ⟨Ext.refl _, rfl⟩
 exact Ask.plainD rfl rfl fun aq wq hNq hO hR hT => does_move (V := str (m)) ((hO 0 rfl).trans s0_5) ⟨Ext.refl _, rfl⟩
 exact Ask.plainD rfl rfl fun aq wq hNq hO hR hT => does_indexStr (l := m) (i := ((0 : Nat) : Int)) (c := a) Tryd.underlying9 (hT 15 rfl rfl) rfl (by omega) (by rw [hm4]; rfl) ⟨Ext.refl _, rfl⟩
 exact Ask.plainD rfl rfl fun aq wq hNq hO hR hT => does_conv ⟨_, Tryd.underlying5⟩ Tryd.underlying22 (hT 16 rfl rfl) (wrap_u32 _) ⟨Ext.refl _, rfl⟩
 exact Ask.plainD rfl rfl fun aq wq hNq hO hR hT => does_move (V := str (m)) ((hO 0 rfl).trans s0_5) ⟨Ext.refl _, rfl⟩
 exact Ask.plainD rfl rfl fun aq wq hNq hO hR hT => does_indexStr (l := m) (i := ((1 : Nat) : Int)) (c := b) Tryd.underlying9 (hT 18 rfl rfl) rfl (by omega) (by rw [hm4]; rfl) ⟨Ext.refl _, rfl⟩
 exact Ask.plainD rfl rfl fun aq wq hNq hO hR hT => does_conv ⟨_, Tryd.underlying5⟩ Tryd.underlying22 (hT 19 rfl rfl) (wrap_u32 _) ⟨Ext.refl _, rfl⟩
 exact Ask.plainD rfl rfl fun aq wq hNq hO hR hT => does_shl32 (a := UInt32.ofNat (b).toNat) (b := 8) (hT 20 rfl rfl) rfl (by decide) ⟨Ext.refl _, rfl⟩
 exact Ask.plainD rfl rfl fun aq wq hNq hO hR hT => does_or32 (a := UInt32.ofNat (a).toNat) (b := UInt32.ofNat ((UInt32.ofNat (b).toNat).toNat * 2 ^ 8)) (hT 17 rfl rfl) (hT 21 rfl rfl) ⟨Ext.refl _, rfl⟩
 exact Ask.plainD rfl rfl fun aq wq hNq hO hR hT => does_move (V := str (m)) ((hO 0 rfl).trans s0_5) ⟨Ext.refl _, rfl⟩
 exact Ask.plainD rfl rfl fun aq wq hNq hO hR hT => does_indexStr (l := m) (i := ((2 : Nat) : Int)) (c := c) Tryd.underlying9 (hT 23 rfl rfl) rfl (by omega) (by rw [hm4]; rfl) ⟨Ext.refl _, rfl⟩
 exact Ask.plainD rfl rfl fun aq wq hNq hO hR hT => does_conv ⟨_, Tryd.underlying5⟩ Tryd.underlying22 (hT 24 rfl rfl) (wrap_u32 _) ⟨Ext.refl _, rfl⟩
 exact Ask.plainD rfl rfl fun aq wq hNq hO hR hT => does_shl32 (a := UInt32.ofNat (c).toNat) (b := 16) (hT 25 rfl rfl) rfl (by decide) ⟨Ext.refl _, rfl⟩
 exact Ask.plainD rfl rfl fun aq wq hNq hO hR hT => does_or32 (a := (UInt32.ofNat (a).toNat) ||| (UInt32.ofNat ((UInt32.ofNat (b).toNat).toNat * 2 ^ 8))) (b := UInt32.ofNat ((UInt32.ofNat (c).toNat).toNat * 2 ^ 16)) (hT 22 rfl rfl) (hT 26 rfl rfl) ⟨Ext.refl _, rfl⟩
 exact Ask.plainD rfl rfl fun aq wq hNq hO hR hT => does_move (V := str (m)) ((hO 0 rfl).trans s0_5) ⟨Ext.refl _, rfl⟩
 exact Ask.plainD rfl rfl fun aq wq hNq hO hR hT => does_indexStr (l := m) (i := ((3 : Nat) : Int)) (c := d) Tryd.underlying9 (hT 28 rfl rfl) rfl (by omega) (by rw [hm4]; rfl) ⟨Ext.refl _, rfl⟩
 exact Ask.plainD rfl rfl fun aq wq hNq hO hR hT => does_conv ⟨_, Tryd.underlying5⟩ Tryd.underlying22 (hT 29 rfl rfl) (wrap_u32 _) ⟨Ext.refl _, rfl⟩
 exact Ask.plainD rfl rfl fun aq wq hNq hO hR hT => does_shl32 (a := UInt32.ofNat (d).toNat) (b := 24) (hT 30 rfl rfl) rfl (by decide) ⟨Ext.refl _, rfl⟩
 exact Ask.plainD rfl rfl fun aq wq hNq hO hR hT => does_or32 (a := ((UInt32.ofNat (a).toNat) ||| (UInt32.ofNat ((UInt32.ofNat (b).toNat).toNat * 2 ^ 8))) ||| (UInt32.ofNat ((UInt32.ofNat (c).toNat).toNat * 2 ^ 16))) (b := UInt32.ofNat ((UInt32.ofNat (d).toNat).toNat * 2 ^ 24)) (hT 27 rfl rfl) (hT 31 rfl rfl) ⟨Ext.refl _, rfl⟩
 exact Ask.plainD rfl rfl fun aq wq hNq hO hR hT => does_slice1 (T := W32) (X := (((UInt32.ofNat (a).toNat) ||| (UInt32.ofNat ((UInt32.ofNat (b).toNat).toNat * 2 ^ 8))) ||| (UInt32.ofNat ((UInt32.ofNat (c).toNat).toNat * 2 ^ 16))) ||| (UInt32.ofNat ((UInt32.ofNat (d).toNat).toNat * 2 ^ 24))) (V := w32 ((((UInt32.ofNat (a).toNat) ||| (UInt32.ofNat ((UInt32.ofNat (b).toNat).toNat * 2 ^ 8))) ||| (UInt32.ofNat ((UInt32.ofNat (c).toNat).toNat * 2 ^ 16))) ||| (UInt32.ofNat ((UInt32.ofNat (d).toNat).toNat * 2 ^ 24)))) app_70 rfl (by decide) (hT 32 rfl rfl) rfl (fun v w2 he _ ho => ⟨he, OwnT.base ho hR.size'⟩)
 intro a6 wd6 hN_6 hD_6 hO hR hA hU
 obtain ⟨t14, _, _, _, _, _, _, _, _, _, _, _, _, _, _, _, _, _, _, t33, _⟩ := hA
 have hE_6 := hE_5.trans hR
 have s0_6 := (hO 0 rfl).trans s0_5
 have s4_6 := (hO 4 rfl).trans s4_5
 have hsxo_6 := hsxo_5.ext' hR
 have hoxo_6 := hoxo_5.ext' hR
 have s14_6 : get a6 14 = xo := t14
 obtain ⟨x33, s33_6⟩ : ∃ x, get a6 33 = x := ⟨_, rfl⟩
 replace t33 : OwnT W32 wd5.heap.size 22 ([(((UInt32.ofNat (a).toNat) ||| (UInt32.ofNat ((UInt32.ofNat (b).toNat).toNat * 2 ^ 8))) ||| (UInt32.ofNat ((UInt32.ofNat (c).toNat).toNat * 2 ^ 16))) ||| (UInt32.ofNat ((UInt32.ofNat (d).toNat).toNat * 2 ^ 24))]) x33 wd6 := by rw [← s33_6]; exact t33
 have no_x33_xo : ∀ k, x33.ownBlock = some k → xo.ownBlock ≠ some k := fun k e e' => Nat.lt_irrefl _ (Nat.lt_of_lt_of_le (OwnT.block_lt hoxo_5 e').2 (OwnT.block_lt t33 e).1)
 have hsx33_6 := t33.sl.wide (Nat.zero_le _) (.inl rfl)
 have hox33_6 := OwnT.base t33 hE_5.size'
 clear hE_5 hN_5 hD_5 s0_5 s4_5 s11_5 hsxo_5 hoxo_5
 refine tail_put rfl rfl hN_6 hD_6 (by decide) (does_append (T := W32) (base := w0.heap.size) (xs := acc) (ys := [(((UInt32.ofNat (a).toNat) ||| (UInt32.ofNat ((UInt32.ofNat (b).toNat).toNat * 2 ^ 8))) ||| (UInt32.ofNat ((UInt32.ofNat (c).toNat).toNat * 2 ^ 16))) ||| (UInt32.ofNat ((UInt32.ofNat (d).toNat).toNat * 2 ^ 24))]) (v := xo) app_70 s14_6 hoxo_6 (SlT.at s33_6 hsx33_6) (by simp) (by simp only [List.length_append, List.length_cons, List.length_nil]; omega) (by simp only [List.length_append, List.length_cons, List.length_nil]; omega) hE_6.size' (fun x34 wd7 hX hox34_7 hk a7 hN_7 hD_7 hv hO => ?_))
 have hE_7 := hE_6.since hX (fun b hb => Nat.le_trans (Nat.le_refl _) (OwnT.block_lt hoxo_6 hb).1)
 have hox33_7 := OwnT.ext hox33_6 hX (fun k hk e => no_x33_xo k hk e)
 have no_x34_x33 : ∀ k, x34.ownBlock = some k → x33.ownBlock ≠ some k := fun k e e' => (hk k e).elim (fun h => no_x33_xo k e' h) (fun h => Nat.lt_irrefl _ (Nat.lt_of_lt_of_le (OwnT.block_lt hox33_6 e').2 h))
 have hsx33_7 := hox33_7.sl.wide (Nat.zero_le _) (.inl rfl)
 have hsx34_7 := hox34_7.sl.wide (Nat.zero_le _) (.inl rfl)
 rw [word_or] at hox34_7 hsx34_7
 have s34_7 := hv
 have s0_7 := (hO 0 rfl).trans s0_6
 have s4_7 := (hO 4 rfl).trans s4_6
 clear hO hv hX hk hN_6 hD_6 hE_6 hox33_6 s0_6 s4_6 s14_6 s33_6
 refine tail_put rfl rfl hN_7 hD_7 (by decide) (does_assign (V := x34) s34_7 (fun a8 hN_8 hD_8 hv hO => ?_))
 have s4_8 := hv
 have s0_8 := (hO 0 rfl).trans s0_7
 clear hO hv hN_7 hD_7 s0_7 s34_7 s4_7
 refine tail_nil ?_
 refine region_lex [] [(12, Pr.ex (str (m))), (13, Pr.ex (str (m.drop 4)))] 2 hN_8 hD_8 (by kernel_rfl) (by kernel_rfl) ?_ ?_
 refine Asks.cons ?_ (Asks.cons ?_ (Asks.zero _))
 exact Ask.plain rfl rfl fun aq wq hNq hO hR hT => does_move (V := str (m)) ((hO 0 rfl).trans s0_8) ⟨Ext.refl _, rfl⟩
 exact Ask.plain rfl rfl fun aq wq hNq hO hR hT => does_strLo (l := m) (k := ((4 : Nat) : Int)) Tryd.underlying9 (hT 12 rfl rfl) rfl (by omega) (by omega) ⟨Ext.refl _, rfl⟩
 intro a9 wd9 hN_9 hD_9 hO hR hA hU
 obtain ⟨_, t13, _⟩ := hA
 have hE_9 := hE_7.trans hR
 have s0_9 := (hO 0 rfl).trans s0_8
 have s4_9 := (hO 4 rfl).trans s4_8
 have hsx33_9 := hsx33_7.ext' hR
 have hsx34_9 := hsx34_7.ext' hR
 have hox33_9 := hox33_7.ext' hR
 have hox34_9 := hox34_7.ext' hR
 have s13_9 : get a9 13 = str (m.drop 4) := t13
 clear hE_7 hN_8 hD_8 s0_8 s4_8 hsx33_7 hsx34_7 hox33_7 hox34_7
 refine tail_put rfl rfl hN_9 hD_9 (by decide) (does_assign (V := str (m.drop 4)) s13_9 (fun a10 hN_10 hD_10 hv hO => ?_))
 have s0_10 := hv
 have s4_10 := (hO 4 rfl).trans s4_9
 clear hO hv hN_9 hD_9 s4_9 s13_9 s0_9
 refine tail_nil ?_
 exact ⟨_, by rw [hm4]; simp only [List.length_cons]; omega, m', (acc ++ [word a b c d]), x34, rfl, hN_10, hD_10, (by rw [s0_10, hm4]; rfl), s4_10, hE_9, hox34_9, by rw [← hm, words_step hm4, List.append_assoc]; rfl, by rw [hm4] at hm0; simp only [List.length_cons] at hm0; omega, by rw [hm4] at hal; simp only [List.length_cons, List.length_append, List.length_nil] at hal ⊢; omega⟩
 have hc1 := of_decide_eq_false hc1
 refine wp_exit ?_
 refine wp_seq ?_
 refine region_lex [] [(35, Pr.ex (xo)), (2, Pr.ex (xo)), (3, Pr.ex (i64 ((0 : Nat) : Int)))] 3 hN_5 hD_5 (by kernel_rfl) (by kernel_rfl) ?_ ?_
 refine Asks.cons ?_ (Asks.cons ?_ (Asks.cons ?_ (Asks.zero _)))
 exact Ask.plain rfl rfl fun aq wq hNq hO hR hT => does_move (V := xo) ((hO 4 rfl).trans s4_5) ⟨Ext.refl _, rfl⟩
 exact Ask.plain rfl rfl fun aq wq hNq hO hR hT => does_assign (V := xo) (hT 35 rfl rfl) ⟨Ext.refl _, rfl⟩
 exact Ask.plain rfl rfl fun aq wq hNq hO hR hT => does_assign (V := i64 ((0 : Nat) : Int)) rfl ⟨Ext.refl _, rfl⟩
 intro a11 wd11 hN_11 hD_11 hO hR hA hU
 obtain ⟨_, t2, t3, _⟩ := hA
 have hE_11 := hE_5.trans hR
 have hsxo_11 := hsxo_5.ext' hR
 have hoxo_11 := hoxo_5.ext' hR
 have s2_11 : get a11 2 = xo := t2
 have s3_11 : get a11 3 = i64 ((0 : Nat) : Int) := t3
 clear hE_5 hN_5 hD_5 s0_5 s4_5 s11_5 hsxo_5 hoxo_5
 refine tail_nil ?_
 refine wp_ret ?_
 refine res_two (V1 := xo) (V2 := i64 ((0 : Nat) : Int)) rfl hD_11 s2_11 s3_11 ?_
 have hz := words_nil (m := m) (by omega)
 rw [hz, List.append_nil] at hm
 have ho := hoxo_11
 rw [hm] at ho
 exact ⟨⟨_, _, rfl, ho, rfl⟩, hE_11⟩

end Go.Proofs.YtaeohnkfmachfabDoor
