/- The walks of functions of the program: printed. -/
import Derived.Test.YtaeohnkfmachfabDoorG3
import Derived.Test.YtaeohnkfmachfabDoorR0
import Derived.Test.YtaeohnkfmachfabDoorG4
import Derived.Test.YtaeohnkfmachfabDoorF0
set_option maxRecDepth 100000
namespace Go.Proofs.YtaeohnkfmachfabDoor
open Go Go.RowKit Sk Sd
theorem of_ (s : List UInt8) (w0 : World) (hL : Laid w0) (hn : s.length ≤ 65536) :
    Gives Tryd.prog 44 #[str (s)] w0 (Pr.ex (Dg.val (of s))) := by
 refine enter (N := 37) Tryd.func44 rfl rfl ?_
 intro a0 hN_0 hD_0 hA
 have s0_0 : get a0 0 = str (s) := hA 0 _ rfl
 clear hA
 have hE_0 : Ext w0 w0 := Ext.refl w0
 refine wp_seq ?_
 refine region_lex [2] [(2, Pr.box' w0.heap.size 24 [w32 (Dg.zero).a, w32 (Dg.zero).b, w32 (Dg.zero).c, w32 (Dg.zero).d])] 1 hN_0 hD_0 (by kernel_rfl) (by kernel_rfl) ?_ ?_
 refine Asks.cons ?_ (Asks.zero _)
 refine Ask.fresh rfl rfl ?_
 intro aq wq hNq hO hR hT
 exact does_alloc zero_24 (fun b w2 he hlo hb => ⟨he, ⟨b, rfl, Nat.le_trans hR.size' hlo, hb⟩, ⟨b, rfl, hlo, hb.lt⟩⟩)
 intro a1 wd1 hN_1 hD_1 hO hR hA hU
 obtain ⟨t2, _⟩ := hA
 have hE_1 := hE_0.trans hR
 have s0_1 := (hO 0 rfl).trans s0_0
 obtain ⟨b2, s2_1, lo_b2, hbb2_1⟩ := t2
 have fr_b2 : w0.heap.size ≤ b2 := Nat.le_trans hE_0.size' lo_b2
 clear hE_0 hN_0 hD_0 s0_0
 refine tail_nil ?_
 refine wp_seq ?_
 refine region_lex [] [(8, Pr.ex (str (s))), (9, Pr.ex (i64 ((s.length : Nat) : Int))), (10, Pr.ex (w64 (UInt64.ofNat s.length))), (3, Pr.ex (w64 (UInt64.ofNat s.length)))] 4 hN_1 hD_1 (by kernel_rfl) (by kernel_rfl) ?_ ?_
 refine Asks.cons ?_ (Asks.cons ?_ (Asks.cons ?_ (Asks.cons ?_ (Asks.zero _))))
 exact Ask.plain rfl rfl fun aq wq hNq hO hR hT => does_move (V := str (s)) ((hO 0 rfl).trans s0_1) ⟨Ext.refl _, rfl⟩
 exact Ask.plain rfl rfl fun aq wq hNq hO hR hT => does_lenStr (l := s) Tryd.underlying9 (hT 8 rfl rfl) ⟨Ext.refl _, rfl⟩
 exact Ask.plain rfl rfl fun aq wq hNq hO hR hT => does_conv ⟨_, Tryd.underlying3⟩ Tryd.underlying80 (hT 9 rfl rfl) (wrap_u64 _) ⟨Ext.refl _, rfl⟩
 exact Ask.plain rfl rfl fun aq wq hNq hO hR hT => does_assign (V := w64 (UInt64.ofNat s.length)) (hT 10 rfl rfl) ⟨Ext.refl _, rfl⟩
 intro a2 wd2 hN_2 hD_2 hO hR hA hU
 obtain ⟨_, _, _, t3, _⟩ := hA
 have hE_2 := hE_1.trans hR
 have s0_2 := (hO 0 rfl).trans s0_1
 have s2_2 := (hO 2 rfl).trans s2_1
 have hbb2_2 := hbb2_1.ext' hR
 have s3_2 : get a2 3 = w64 (UInt64.ofNat s.length) := t3
 clear hE_1 hN_1 hD_1 s0_1 s2_1 hbb2_1
 refine tail_nil ?_
 refine wp_seq ?_
 refine region_lex [] [(11, Pr.ex (str (s))), (12, Pr.ex (i64 ((s.length : Nat) : Int))), (13, Pr.ex (i64 ((s.length + 1 : Nat) : Int))), (14, Pr.ex (i64 (((s.length + 1) % 16 : Nat) : Int))), (15, Pr.ex (i64 ((24 - ((s.length + 1) % 16) : Nat) : Int))), (16, Pr.ex (i64 (((24 - ((s.length + 1) % 16)) % 16 : Nat) : Int))), (4, Pr.ex (i64 (((24 - ((s.length + 1) % 16)) % 16 : Nat) : Int)))] 7 hN_2 hD_2 (by kernel_rfl) (by kernel_rfl) ?_ ?_
 refine Asks.cons ?_ (Asks.cons ?_ (Asks.cons ?_ (Asks.cons ?_ (Asks.cons ?_ (Asks.cons ?_ (Asks.cons ?_ (Asks.zero _)))))))
 exact Ask.plain rfl rfl fun aq wq hNq hO hR hT => does_move (V := str (s)) ((hO 0 rfl).trans s0_2) ⟨Ext.refl _, rfl⟩
 exact Ask.plain rfl rfl fun aq wq hNq hO hR hT => does_lenStr (l := s) Tryd.underlying9 (hT 11 rfl rfl) ⟨Ext.refl _, rfl⟩
 exact Ask.plain rfl rfl fun aq wq hNq hO hR hT => does_add (a := ((s.length : Nat) : Int)) (b := ((1 : Nat) : Int)) (r := ((s.length + 1 : Nat) : Int)) (hT 12 rfl rfl) rfl (by omega) (by omega) (by omega) ⟨Ext.refl _, rfl⟩
 exact Ask.plain rfl rfl fun aq wq hNq hO hR hT => does_rem (k := .i64) (a := ((s.length + 1 : Nat) : Int)) (b := ((16 : Nat) : Int)) (r := (((s.length + 1) % 16 : Nat) : Int)) (hT 13 rfl rfl) rfl (by omega) (by omega) (by omega) ⟨Ext.refl _, rfl⟩
 exact Ask.plain rfl rfl fun aq wq hNq hO hR hT => does_sub (a := ((24 : Nat) : Int)) (b := (((s.length + 1) % 16 : Nat) : Int)) (r := ((24 - ((s.length + 1) % 16) : Nat) : Int)) rfl (hT 14 rfl rfl) (by omega) (by omega) (by omega) ⟨Ext.refl _, rfl⟩
 exact Ask.plain rfl rfl fun aq wq hNq hO hR hT => does_rem (k := .i64) (a := ((24 - ((s.length + 1) % 16) : Nat) : Int)) (b := ((16 : Nat) : Int)) (r := (((24 - ((s.length + 1) % 16)) % 16 : Nat) : Int)) (hT 15 rfl rfl) rfl (by omega) (by omega) (by omega) ⟨Ext.refl _, rfl⟩
 exact Ask.plain rfl rfl fun aq wq hNq hO hR hT => does_assign (V := i64 (((24 - ((s.length + 1) % 16)) % 16 : Nat) : Int)) (hT 16 rfl rfl) ⟨Ext.refl _, rfl⟩
 intro a3 wd3 hN_3 hD_3 hO hR hA hU
 obtain ⟨_, _, _, _, _, _, t4, _⟩ := hA
 have hE_3 := hE_2.trans hR
 have s0_3 := (hO 0 rfl).trans s0_2
 have s2_3 := (hO 2 rfl).trans s2_2
 have s3_3 := (hO 3 rfl).trans s3_2
 have hbb2_3 := hbb2_2.ext' hR
 have s4_3 : get a3 4 = i64 (((24 - ((s.length + 1) % 16)) % 16 : Nat) : Int) := t4
 clear hE_2 hN_2 hD_2 s0_2 s2_2 s3_2 hbb2_2
 refine tail_nil ?_
 refine wp_seq ?_
 refine region_lex [] [(17, Pr.ex (str (s))), (18, Pr.ex (str (s ++ (([128] : List UInt8))))), (19, Pr.ex (i64 (((24 - ((s.length + 1) % 16)) % 16 : Nat) : Int))), (20, Pr.ex (str (List.replicate ((24 - ((s.length + 1) % 16)) % 16) (0 : UInt8)))), (21, Pr.ex (str ((s ++ (([128] : List UInt8))) ++ (List.replicate ((24 - ((s.length + 1) % 16)) % 16) (0 : UInt8))))), (22, Pr.ex (w64 (UInt64.ofNat s.length))), (23, Pr.ex (w32 ((UInt64.ofNat s.length).toUInt32))), (24, Pr.ex (w64 (UInt64.ofNat s.length))), (25, Pr.ex (w64 (UInt64.ofNat ((UInt64.ofNat s.length).toNat / 2 ^ 32)))), (26, Pr.ex (w32 ((UInt64.ofNat ((UInt64.ofNat s.length).toNat / 2 ^ 32)).toUInt32))), (27, Pr.own' W32 wd3.heap.size 22 ([(UInt64.ofNat s.length).toUInt32, (UInt64.ofNat ((UInt64.ofNat s.length).toNat / 2 ^ 32)).toUInt32])), (28, Pr.ex (str (wbytes [(UInt64.ofNat s.length).toUInt32, (UInt64.ofNat ((UInt64.ofNat s.length).toNat / 2 ^ 32)).toUInt32]))), (29, Pr.ex (str (((s ++ (([128] : List UInt8))) ++ (List.replicate ((24 - ((s.length + 1) % 16)) % 16) (0 : UInt8))) ++ (wbytes [(UInt64.ofNat s.length).toUInt32, (UInt64.ofNat ((UInt64.ofNat s.length).toNat / 2 ^ 32)).toUInt32])))), (5, Pr.ex (str (((s ++ (([128] : List UInt8))) ++ (List.replicate ((24 - ((s.length + 1) % 16)) % 16) (0 : UInt8))) ++ (wbytes [(UInt64.ofNat s.length).toUInt32, (UInt64.ofNat ((UInt64.ofNat s.length).toNat / 2 ^ 32)).toUInt32]))))] 14 hN_3 hD_3 (by kernel_rfl) (by kernel_rfl) ?_ ?_
 refine Asks.cons ?_ (Asks.cons ?_ (Asks.cons ?_ (Asks.cons ?_ (Asks.cons ?_ (Asks.cons ?_ (Asks.cons ?_ (Asks.cons ?_ (Asks.cons ?_ (Asks.cons ?_ (Asks.cons ?_ (Asks.cons ?_ (Asks.cons ?_ (Asks.cons ?_ (Asks.zero _))))))))))))))
 exact Ask.plain rfl rfl fun aq wq hNq hO hR hT => does_move (V := str (s)) ((hO 0 rfl).trans s0_3) ⟨Ext.refl _, rfl⟩
 exact Ask.plain rfl rfl fun aq wq hNq hO hR hT => does_cat (a := s) (b := ([128] : List UInt8)) (hT 17 rfl rfl) rfl (by simp only [List.length_append, List.length_cons, List.length_nil, List.length_replicate, bytes_length]; omega) ⟨Ext.refl _, rfl⟩
 exact Ask.plain rfl rfl fun aq wq hNq hO hR hT => does_move (V := i64 (((24 - ((s.length + 1) % 16)) % 16 : Nat) : Int)) ((hO 4 rfl).trans s4_3) ⟨Ext.refl _, rfl⟩
 exact Ask.plain rfl rfl fun aq wq hNq hO hR hT => does_ret (vs := #[str (([0] : List UInt8)), i64 (((24 - ((s.length + 1) % 16)) % 16 : Nat) : Int)]) call_59 (args2 rfl (hT 19 rfl rfl)) rfl ((repeat_ ((24 - ((s.length + 1) % 16)) % 16) wq (by omega)).mono fun v w2 h => ⟨h.2, h.1⟩)
 exact Ask.plain rfl rfl fun aq wq hNq hO hR hT => does_cat (a := s ++ (([128] : List UInt8))) (b := List.replicate ((24 - ((s.length + 1) % 16)) % 16) (0 : UInt8)) (hT 18 rfl rfl) (hT 20 rfl rfl) (by simp only [List.length_append, List.length_cons, List.length_nil, List.length_replicate, bytes_length]; omega) ⟨Ext.refl _, rfl⟩
 exact Ask.plain rfl rfl fun aq wq hNq hO hR hT => does_move (V := w64 (UInt64.ofNat s.length)) ((hO 3 rfl).trans s3_3) ⟨Ext.refl _, rfl⟩
 exact Ask.plain rfl rfl fun aq wq hNq hO hR hT => does_conv ⟨_, Tryd.underlying80⟩ Tryd.underlying22 (hT 22 rfl rfl) (conv_64_32 _) ⟨Ext.refl _, rfl⟩
 exact Ask.plain rfl rfl fun aq wq hNq hO hR hT => does_move (V := w64 (UInt64.ofNat s.length)) ((hO 3 rfl).trans s3_3) ⟨Ext.refl _, rfl⟩
 exact Ask.plain rfl rfl fun aq wq hNq hO hR hT => does_shr64 (a := UInt64.ofNat s.length) (b := 32) (hT 24 rfl rfl) rfl (by decide) ⟨Ext.refl _, rfl⟩
 exact Ask.plain rfl rfl fun aq wq hNq hO hR hT => does_conv ⟨_, Tryd.underlying80⟩ Tryd.underlying22 (hT 25 rfl rfl) (conv_64_32 _) ⟨Ext.refl _, rfl⟩
 exact Ask.plain rfl rfl fun aq wq hNq hO hR hT => does_sliceN (T := W32) (xs := [(UInt64.ofNat s.length).toUInt32, (UInt64.ofNat ((UInt64.ofNat s.length).toNat / 2 ^ 32)).toUInt32]) (vs := [w32 ((UInt64.ofNat s.length).toUInt32), w32 ((UInt64.ofNat ((UInt64.ofNat s.length).toNat / 2 ^ 32)).toUInt32)]) app_70 rfl (parts2 (hT 23 rfl rfl) (hT 26 rfl rfl)) rfl (by decide) (by decide) rfl (fun v w2 he _ ho => ⟨he, OwnT.base ho hR.size'⟩)
 exact Ask.plain rfl rfl fun aq wq hNq hO hR hT => does_ret (vs := #[get aq 27]) call_56 (args1 rfl) rfl ((bytes_ ([(UInt64.ofNat s.length).toUInt32, (UInt64.ofNat ((UInt64.ofNat s.length).toNat / 2 ^ 32)).toUInt32]) (get aq 27) wq (((OwnT.sl (hT 27 rfl rfl)).wide (Nat.zero_le _) (.inl rfl)).wide (Nat.zero_le _) (.inl rfl)) (by simp)).mono fun v w2 h => ⟨h.2, h.1⟩)
 exact Ask.plain rfl rfl fun aq wq hNq hO hR hT => does_cat (a := (s ++ (([128] : List UInt8))) ++ (List.replicate ((24 - ((s.length + 1) % 16)) % 16) (0 : UInt8))) (b := wbytes [(UInt64.ofNat s.length).toUInt32, (UInt64.ofNat ((UInt64.ofNat s.length).toNat / 2 ^ 32)).toUInt32]) (hT 21 rfl rfl) (hT 28 rfl rfl) (by simp only [List.length_append, List.length_cons, List.length_nil, List.length_replicate, bytes_length]; omega) ⟨Ext.refl _, rfl⟩
 exact Ask.plain rfl rfl fun aq wq hNq hO hR hT => does_assign (V := str (((s ++ (([128] : List UInt8))) ++ (List.replicate ((24 - ((s.length + 1) % 16)) % 16) (0 : UInt8))) ++ (wbytes [(UInt64.ofNat s.length).toUInt32, (UInt64.ofNat ((UInt64.ofNat s.length).toNat / 2 ^ 32)).toUInt32]))) (hT 29 rfl rfl) ⟨Ext.refl _, rfl⟩
 intro a4 wd4 hN_4 hD_4 hO hR hA hU
 obtain ⟨_, _, _, _, _, _, _, _, _, _, _, _, _, t5, _⟩ := hA
 have hE_4 := hE_3.trans hR
 have s2_4 := (hO 2 rfl).trans s2_3
 have hbb2_4 := hbb2_3.ext' hR
 have s5_4 : get a4 5 = str (((s ++ (([128] : List UInt8))) ++ (List.replicate ((24 - ((s.length + 1) % 16)) % 16) (0 : UInt8))) ++ (wbytes [(UInt64.ofNat s.length).toUInt32, (UInt64.ofNat ((UInt64.ofNat s.length).toNat / 2 ^ 32)).toUInt32])) := t5
 clear hE_3 hN_3 hD_3 s0_3 s2_3 s3_3 s4_3 hbb2_3
 refine tail_nil ?_
 refine wp_seq ?_
 refine region_lex [] [(31, Pr.ex (str (((s ++ (([128] : List UInt8))) ++ (List.replicate ((24 - ((s.length + 1) % 16)) % 16) (0 : UInt8))) ++ (wbytes [(UInt64.ofNat s.length).toUInt32, (UInt64.ofNat ((UInt64.ofNat s.length).toNat / 2 ^ 32)).toUInt32])))), (32, Pr.t2 (Pr.own' W32 wd4.heap.size 22 (words (((s ++ (([128] : List UInt8))) ++ (List.replicate ((24 - ((s.length + 1) % 16)) % 16) (0 : UInt8))) ++ (wbytes [(UInt64.ofNat s.length).toUInt32, (UInt64.ofNat ((UInt64.ofNat s.length).toNat / 2 ^ 32)).toUInt32])))) (Pr.ex (i64 ((0 : Nat) : Int)))), (30, Pr.t2 (Pr.own' W32 wd4.heap.size 22 (words (((s ++ (([128] : List UInt8))) ++ (List.replicate ((24 - ((s.length + 1) % 16)) % 16) (0 : UInt8))) ++ (wbytes [(UInt64.ofNat s.length).toUInt32, (UInt64.ofNat ((UInt64.ofNat s.length).toNat / 2 ^ 32)).toUInt32])))) (Pr.ex (i64 ((0 : Nat) : Int)))), (33, Pr.own' W32 wd4.heap.size 22 (words (((s ++ (([128] : List UInt8))) ++ (List.replicate ((24 - ((s.length + 1) % 16)) % 16) (0 : UInt8))) ++ (wbytes [(UInt64.ofNat s.length).toUInt32, (UInt64.ofNat ((UInt64.ofNat s.length).toNat / 2 ^ 32)).toUInt32])))), (34, Pr.ex (i64 ((0 : Nat) : Int))), (6, Pr.own' W32 wd4.heap.size 22 (words (((s ++ (([128] : List UInt8))) ++ (List.replicate ((24 - ((s.length + 1) % 16)) % 16) (0 : UInt8))) ++ (wbytes [(UInt64.ofNat s.length).toUInt32, (UInt64.ofNat ((UInt64.ofNat s.length).toNat / 2 ^ 32)).toUInt32])))), (7, Pr.ex (i64 ((0 : Nat) : Int)))] 7 hN_4 hD_4 (by kernel_rfl) (by kernel_rfl) ?_ ?_
 refine Asks.cons ?_ (Asks.cons ?_ (Asks.cons ?_ (Asks.cons ?_ (Asks.cons ?_ (Asks.cons ?_ (Asks.cons ?_ (Asks.zero _)))))))
 exact Ask.plain rfl rfl fun aq wq hNq hO hR hT => does_move (V := str (((s ++ (([128] : List UInt8))) ++ (List.replicate ((24 - ((s.length + 1) % 16)) % 16) (0 : UInt8))) ++ (wbytes [(UInt64.ofNat s.length).toUInt32, (UInt64.ofNat ((UInt64.ofNat s.length).toNat / 2 ^ 32)).toUInt32]))) ((hO 5 rfl).trans s5_4) ⟨Ext.refl _, rfl⟩
 exact Ask.plain rfl rfl fun aq wq hNq hO hR hT => does_ret (vs := #[str (((s ++ (([128] : List UInt8))) ++ (List.replicate ((24 - ((s.length + 1) % 16)) % 16) (0 : UInt8))) ++ (wbytes [(UInt64.ofNat s.length).toUInt32, (UInt64.ofNat ((UInt64.ofNat s.length).toNat / 2 ^ 32)).toUInt32]))]) call_60 (args1 (hT 31 rfl rfl)) rfl ((words_ (((s ++ (([128] : List UInt8))) ++ (List.replicate ((24 - ((s.length + 1) % 16)) % 16) (0 : UInt8))) ++ (wbytes [(UInt64.ofNat s.length).toUInt32, (UInt64.ofNat ((UInt64.ofNat s.length).toNat / 2 ^ 32)).toUInt32])) wq (full4 s _ _) (fullN s _ _ hn)).mono fun v w2 h => ⟨h.2, by obtain ⟨x0, x1, hv, k0, k1⟩ := h.1; exact ⟨x0, x1, hv, OwnT.base k0 hR.size', k1⟩⟩)
 exact Ask.plain rfl rfl fun aq wq hNq hO hR hT => does_move rfl ⟨Ext.refl _, (hT 32 rfl rfl)⟩
 exact Ask.plain rfl rfl fun aq wq hNq hO hR hT => by
  obtain ⟨x0, x1, hv, k0, k1⟩ := (hT 30 rfl rfl)
  exact does_extract hv rfl ⟨Ext.refl _, k0⟩
 exact Ask.plain rfl rfl fun aq wq hNq hO hR hT => by
  obtain ⟨x0, x1, hv, k0, k1⟩ := (hT 30 rfl rfl)
  exact does_extract (V := i64 ((0 : Nat) : Int)) hv (by rw [show x1 = i64 ((0 : Nat) : Int) from k1]; rfl) ⟨Ext.refl _, rfl⟩
 exact Ask.plain rfl rfl fun aq wq hNq hO hR hT => does_assign rfl ⟨Ext.refl _, (hT 33 rfl rfl)⟩
 exact Ask.plain rfl rfl fun aq wq hNq hO hR hT => does_assign (V := i64 ((0 : Nat) : Int)) (hT 34 rfl rfl) ⟨Ext.refl _, rfl⟩
 intro a5 wd5 hN_5 hD_5 hO hR hA hU
 obtain ⟨_, _, _, _, _, t6, _, _⟩ := hA
 have hE_5 := hE_4.trans hR
 have s2_5 := (hO 2 rfl).trans s2_4
 have hbb2_5 := hbb2_4.ext' hR
 obtain ⟨x6, s6_5⟩ : ∃ x, get a5 6 = x := ⟨_, rfl⟩
 replace t6 : OwnT W32 wd4.heap.size 22 (words (((s ++ (([128] : List UInt8))) ++ (List.replicate ((24 - ((s.length + 1) % 16)) % 16) (0 : UInt8))) ++ (wbytes [(UInt64.ofNat s.length).toUInt32, (UInt64.ofNat ((UInt64.ofNat s.length).toNat / 2 ^ 32)).toUInt32]))) x6 wd5 := by rw [← s6_5]; exact t6
 have nbo_x6_b2 : x6.ownBlock ≠ some b2 := fun e => Nat.lt_irrefl _ (Nat.lt_of_lt_of_le hbb2_4.lt (OwnT.block_lt t6 e).1)
 have hsx6_5 := t6.sl.wide (Nat.zero_le _) (.inl rfl)
 have hox6_5 := OwnT.base t6 hE_4.size'
 clear hE_4 hN_4 hD_4 s2_4 s5_4 hbb2_4
 refine tail_nil ?_
 refine wp_seq ?_
 refine region_lex [] [(35, Pr.ex (x6)), (36, Pr.ex (Dg.val (((St.first 1).takes (words (((s ++ (([128] : List UInt8))) ++ (List.replicate ((24 - ((s.length + 1) % 16)) % 16) (0 : UInt8))) ++ (wbytes [(UInt64.ofNat s.length).toUInt32, (UInt64.ofNat ((UInt64.ofNat s.length).toNat / 2 ^ 32)).toUInt32])))).out)))] 2 hN_5 hD_5 (by kernel_rfl) (by kernel_rfl) ?_ ?_
 refine Asks.cons ?_ (Asks.cons ?_ (Asks.zero _))
 exact Ask.plain rfl rfl fun aq wq hNq hO hR hT => does_move (V := x6) ((hO 6 rfl).trans s6_5) ⟨Ext.refl _, rfl⟩
 exact Ask.plain rfl rfl fun aq wq hNq hO hR hT => does_ret (vs := #[w32 (1), x6]) call_61 (args2 rfl (hT 35 rfl rfl)) rfl ((take (1) (words (((s ++ (([128] : List UInt8))) ++ (List.replicate ((24 - ((s.length + 1) % 16)) % 16) (0 : UInt8))) ++ (wbytes [(UInt64.ofNat s.length).toUInt32, (UInt64.ofNat ((UInt64.ofNat s.length).toNat / 2 ^ 32)).toUInt32]))) (x6) wq (hL.ext (hE_5.trans hR)) ((hsx6_5.ext' hR).wide (Nat.zero_le _) (.inl rfl))).mono fun v w2 h => ⟨h.2, h.1⟩)
 intro a6 wd6 hN_6 hD_6 hO hR hA hU
 obtain ⟨_, t36, _⟩ := hA
 have hE_6 := hE_5.trans hR
 have s2_6 := (hO 2 rfl).trans s2_5
 have hbb2_6 := hbb2_5.ext' hR
 have hsx6_6 := hsx6_5.ext' hR
 have hox6_6 := hox6_5.ext' hR
 have s36_6 : get a6 36 = Dg.val (((St.first 1).takes (words (((s ++ (([128] : List UInt8))) ++ (List.replicate ((24 - ((s.length + 1) % 16)) % 16) (0 : UInt8))) ++ (wbytes [(UInt64.ofNat s.length).toUInt32, (UInt64.ofNat ((UInt64.ofNat s.length).toNat / 2 ^ 32)).toUInt32])))).out) := t36
 clear hE_5 hN_5 hD_5 s2_5 s6_5 hbb2_5 hsx6_5 hox6_5
 refine tail_none rfl rfl (does_storeD (o := 0) (n := 4) (cs' := [w32 (((St.first 1).takes (words (((s ++ (([128] : List UInt8))) ++ (List.replicate ((24 - ((s.length + 1) % 16)) % 16) (0 : UInt8))) ++ (wbytes [(UInt64.ofNat s.length).toUInt32, (UInt64.ofNat ((UInt64.ofNat s.length).toNat / 2 ^ 32)).toUInt32])))).out).a, w32 (((St.first 1).takes (words (((s ++ (([128] : List UInt8))) ++ (List.replicate ((24 - ((s.length + 1) % 16)) % 16) (0 : UInt8))) ++ (wbytes [(UInt64.ofNat s.length).toUInt32, (UInt64.ofNat ((UInt64.ofNat s.length).toNat / 2 ^ 32)).toUInt32])))).out).b, w32 (((St.first 1).takes (words (((s ++ (([128] : List UInt8))) ++ (List.replicate ((24 - ((s.length + 1) % 16)) % 16) (0 : UInt8))) ++ (wbytes [(UInt64.ofNat s.length).toUInt32, (UInt64.ofNat ((UInt64.ofNat s.length).toNat / 2 ^ 32)).toUInt32])))).out).c, w32 (((St.first 1).takes (words (((s ++ (([128] : List UInt8))) ++ (List.replicate ((24 - ((s.length + 1) % 16)) % 16) (0 : UInt8))) ++ (wbytes [(UInt64.ofNat s.length).toUInt32, (UInt64.ofNat ((UInt64.ofNat s.length).toNat / 2 ^ 32)).toUInt32])))).out).d]) (V := Dg.val (((St.first 1).takes (words (((s ++ (([128] : List UInt8))) ++ (List.replicate ((24 - ((s.length + 1) % 16)) % 16) (0 : UInt8))) ++ (wbytes [(UInt64.ofNat s.length).toUInt32, (UInt64.ofNat ((UInt64.ofNat s.length).toNat / 2 ^ 32)).toUInt32])))).out)) s2_6 s36_6 hbb2_6 (Nat.le_of_ble_eq_true rfl) rfl siz_24 rfl rfl (fun wd7 hX hz hbb2_7 => ?_))
 have hE_7 := hE_6.since hX (fun k e => e ▸ fr_b2)
 have hsx6_7 := SlT.over hsx6_6 hX (fun _ => nbo_x6_b2)
 have hox6_7 := OwnT.ext hox6_6 hX (fun k hk e => nbo_x6_b2 (e ▸ hk))
 clear hX hz hE_6 hbb2_6 hsx6_6 hox6_6
 refine tail_nil ?_
 refine wp_ret ?_
 refine res_one (V := Dg.val (((St.first 1).takes (words (((s ++ (([128] : List UInt8))) ++ (List.replicate ((24 - ((s.length + 1) % 16)) % 16) (0 : UInt8))) ++ (wbytes [(UInt64.ofNat s.length).toUInt32, (UInt64.ofNat ((UInt64.ofNat s.length).toNat / 2 ^ 32)).toUInt32])))).out)) rfl hD_6 (ResIs.cell s2_6 hbb2_7 row_24 rfl rfl) ?_
 exact ⟨by show Dg.val _ = Dg.val _; rw [of_eq s hn], hE_7⟩

end Go.Proofs.YtaeohnkfmachfabDoor
