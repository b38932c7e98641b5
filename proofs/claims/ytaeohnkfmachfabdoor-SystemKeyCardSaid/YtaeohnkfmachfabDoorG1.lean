/- The walks of functions of the program: printed. -/
import Derived.Test.YtaeohnkfmachfabDoorF0
set_option maxRecDepth 100000
namespace Go.Proofs.YtaeohnkfmachfabDoor
open Go Go.RowKit Sk Sd
theorem rotl (x : UInt32) (n : Nat) (w0 : World) (hn : n < 32) :
    Gives Tryd.prog 85 #[w32 (x), i64 ((n : Nat) : Int)] w0 (Pr.ex (w32 (rot x n))) := by
 refine enter (N := 17) Tryd.func85 rfl rfl ?_
 intro a0 hN_0 hD_0 hA
 have s0_0 : get a0 0 = w32 (x) := hA 0 _ rfl
 have s1_0 : get a0 1 = i64 ((n : Nat) : Int) := hA 1 _ rfl
 clear hA
 have hE_0 : Ext w0 w0 := Ext.refl w0
 refine wp_seq ?_
 refine region_lex [] [(4, Pr.ex (w32 (0)))] 1 hN_0 hD_0 (by kernel_rfl) (by kernel_rfl) ?_ ?_
 refine Asks.cons ?_ (Asks.zero _)
 exact Ask.plain rfl rfl fun aq wq hNq hO hR hT => does_assign (V := w32 (0)) rfl ⟨Ext.refl _, rfl⟩
 intro a1 wd1 hN_1 hD_1 hO hR hA hU
 obtain ⟨_, _⟩ := hA
 have hE_1 := hE_0.trans hR
 have s0_1 := (hO 0 rfl).trans s0_0
 have s1_1 := (hO 1 rfl).trans s1_0
 clear hE_0 hN_0 hD_0 s0_0 s1_0
 refine tail_nil ?_
 refine wp_seq ?_
 refine region_lex [] [(6, Pr.ex (i64 ((n : Nat) : Int))), (7, Pr.ex (w64 (UInt64.ofNat n))), (8, Pr.ex (Value.int .u64 (((n : Nat) : Int)))), (5, Pr.ex (Value.int .u64 (((n : Nat) : Int))))] 4 hN_1 hD_1 (by kernel_rfl) (by kernel_rfl) ?_ ?_
 refine Asks.cons ?_ (Asks.cons ?_ (Asks.cons ?_ (Asks.cons ?_ (Asks.zero _))))
 exact Ask.plain rfl rfl fun aq wq hNq hO hR hT => does_move (V := i64 ((n : Nat) : Int)) ((hO 1 rfl).trans s1_1) ⟨Ext.refl _, rfl⟩
 exact Ask.plain rfl rfl fun aq wq hNq hO hR hT => does_conv ⟨_, Tryd.underlying3⟩ Tryd.underlying77 (hT 6 rfl rfl) (wrap_u64 _) ⟨Ext.refl _, rfl⟩
 exact Ask.plain rfl rfl fun aq wq hNq hO hR hT => does_band (hT 7 rfl rfl) rfl (and31 hn) ⟨Ext.refl _, rfl⟩
 exact Ask.plain rfl rfl fun aq wq hNq hO hR hT => does_assign (V := Value.int .u64 (((n : Nat) : Int))) (hT 8 rfl rfl) ⟨Ext.refl _, rfl⟩
 intro a2 wd2 hN_2 hD_2 hO hR hA hU
 obtain ⟨_, _, _, t5, _⟩ := hA
 have hE_2 := hE_1.trans hR
 have s0_2 := (hO 0 rfl).trans s0_1
 have s5_2 : get a2 5 = Value.int .u64 (((n : Nat) : Int)) := t5
 clear hE_1 hN_1 hD_1 s0_1 s1_1
 refine tail_nil ?_
 refine wp_seq ?_
 refine region_lex [] [(9, Pr.ex (w32 (x))), (10, Pr.ex (Value.int .u64 (((n : Nat) : Int)))), (11, Pr.ex (w32 (UInt32.ofNat (x.toNat * 2 ^ n)))), (12, Pr.ex (w32 (x))), (13, Pr.ex (Value.int .u64 (((n : Nat) : Int)))), (14, Pr.ex (Value.int .u64 (((32 - n : Nat) : Int)))), (15, Pr.ex (w32 (UInt32.ofNat (x.toNat / 2 ^ (32 - n))))), (16, Pr.ex (w32 (UInt32.ofNat (x.toNat * 2 ^ n) ||| UInt32.ofNat (x.toNat / 2 ^ (32 - n))))), (4, Pr.ex (w32 (UInt32.ofNat (x.toNat * 2 ^ n) ||| UInt32.ofNat (x.toNat / 2 ^ (32 - n)))))] 9 hN_2 hD_2 (by kernel_rfl) (by kernel_rfl) ?_ ?_
 refine Asks.cons ?_ (Asks.cons ?_ (Asks.cons ?_ (Asks.cons ?_ (Asks.cons ?_ (Asks.cons ?_ (Asks.cons ?_ (Asks.cons ?_ (Asks.cons ?_ (Asks.zero _)))))))))
 exact Ask.plain rfl rfl fun aq wq hNq hO hR hT => does_move (V := w32 (x)) ((hO 0 rfl).trans s0_2) ⟨Ext.refl _, rfl⟩
 exact Ask.plain rfl rfl fun aq wq hNq hO hR hT => does_move (V := Value.int .u64 (((n : Nat) : Int))) ((hO 5 rfl).trans s5_2) ⟨Ext.refl _, rfl⟩
 exact Ask.plain rfl rfl fun aq wq hNq hO hR hT => does_shl32 (b := n) (hT 9 rfl rfl) (hT 10 rfl rfl) (by omega) ⟨Ext.refl _, rfl⟩
 exact Ask.plain rfl rfl fun aq wq hNq hO hR hT => does_move (V := w32 (x)) ((hO 0 rfl).trans s0_2) ⟨Ext.refl _, rfl⟩
 exact Ask.plain rfl rfl fun aq wq hNq hO hR hT => does_move (V := Value.int .u64 (((n : Nat) : Int))) ((hO 5 rfl).trans s5_2) ⟨Ext.refl _, rfl⟩
 exact Ask.plain rfl rfl fun aq wq hNq hO hR hT => does_ksub (r := ((32 - n : Nat) : Int)) rfl (hT 13 rfl rfl) (by rw [wrap64_in (by omega) (by omega)]; omega) ⟨Ext.refl _, rfl⟩
 exact Ask.plain rfl rfl fun aq wq hNq hO hR hT => does_shr32 (b := 32 - n) (hT 12 rfl rfl) (hT 14 rfl rfl) (by omega) ⟨Ext.refl _, rfl⟩
 exact Ask.plain rfl rfl fun aq wq hNq hO hR hT => does_or32 (hT 11 rfl rfl) (hT 15 rfl rfl) ⟨Ext.refl _, rfl⟩
 exact Ask.plain rfl rfl fun aq wq hNq hO hR hT => does_assign (V := w32 (UInt32.ofNat (x.toNat * 2 ^ n) ||| UInt32.ofNat (x.toNat / 2 ^ (32 - n)))) (hT 16 rfl rfl) ⟨Ext.refl _, rfl⟩
 intro a3 wd3 hN_3 hD_3 hO hR hA hU
 obtain ⟨_, _, _, _, _, _, _, _, t4, _⟩ := hA
 have hE_3 := hE_2.trans hR
 have s4_3 : get a3 4 = w32 (UInt32.ofNat (x.toNat * 2 ^ n) ||| UInt32.ofNat (x.toNat / 2 ^ (32 - n))) := t4
 clear hE_2 hN_2 hD_2 s0_2 s5_2
 refine tail_nil ?_
 refine wp_ret ?_
 refine res_one (V := w32 (UInt32.ofNat (x.toNat * 2 ^ n) ||| UInt32.ofNat (x.toNat / 2 ^ (32 - n)))) rfl hD_3 s4_3 ?_
 exact ⟨congrArg w32 (rot_or x hn), hE_3⟩

theorem turn (x : UInt32) (n : Nat) (w0 : World) (hn : n < 32) :
    Gives Tryd.prog 81 #[w32 (x), i64 ((n : Nat) : Int)] w0 (Pr.ex (w32 (rot x n))) := by
 refine enter (N := 9) Tryd.func81 rfl rfl ?_
 intro a0 hN_0 hD_0 hA
 have s0_0 : get a0 0 = w32 (x) := hA 0 _ rfl
 have s1_0 : get a0 1 = i64 ((n : Nat) : Int) := hA 1 _ rfl
 clear hA
 have hE_0 : Ext w0 w0 := Ext.refl w0
 refine wp_seq ?_
 refine region_lex [] [(4, Pr.ex (w32 (0)))] 1 hN_0 hD_0 (by kernel_rfl) (by kernel_rfl) ?_ ?_
 refine Asks.cons ?_ (Asks.zero _)
 exact Ask.plain rfl rfl fun aq wq hNq hO hR hT => does_assign (V := w32 (0)) rfl ⟨Ext.refl _, rfl⟩
 intro a1 wd1 hN_1 hD_1 hO hR hA hU
 obtain ⟨_, _⟩ := hA
 have hE_1 := hE_0.trans hR
 have s0_1 := (hO 0 rfl).trans s0_0
 have s1_1 := (hO 1 rfl).trans s1_0
 clear hE_0 hN_0 hD_0 s0_0 s1_0
 refine tail_nil ?_
 refine wp_seq ?_
 refine region_lex [] [(5, Pr.ex (w32 (x))), (6, Pr.ex (i64 ((n : Nat) : Int))), (7, Pr.ex (i64 ((n : Nat) : Int))), (8, Pr.ex (w32 (rot x n))), (4, Pr.ex (w32 (rot x n)))] 5 hN_1 hD_1 (by kernel_rfl) (by kernel_rfl) ?_ ?_
 refine Asks.cons ?_ (Asks.cons ?_ (Asks.cons ?_ (Asks.cons ?_ (Asks.cons ?_ (Asks.zero _)))))
 exact Ask.plain rfl rfl fun aq wq hNq hO hR hT => does_move (V := w32 (x)) ((hO 0 rfl).trans s0_1) ⟨Ext.refl _, rfl⟩
 exact Ask.plain rfl rfl fun aq wq hNq hO hR hT => does_move (V := i64 ((n : Nat) : Int)) ((hO 1 rfl).trans s1_1) ⟨Ext.refl _, rfl⟩
 exact Ask.plain rfl rfl fun aq wq hNq hO hR hT => does_rem (k := .i64) (a := ((n : Nat) : Int)) (b := ((32 : Nat) : Int)) (r := ((n : Nat) : Int)) (hT 6 rfl rfl) rfl (by omega) (by omega) (by omega) ⟨Ext.refl _, rfl⟩
 exact Ask.plain rfl rfl fun aq wq hNq hO hR hT => does_ret (vs := #[w32 (x), i64 ((n : Nat) : Int)]) call_85 (args2 (hT 5 rfl rfl) (hT 7 rfl rfl)) rfl ((rotl (x) (n) wq hn).mono fun v w2 h => ⟨h.2, h.1⟩)
 exact Ask.plain rfl rfl fun aq wq hNq hO hR hT => does_assign (V := w32 (rot x n)) (hT 8 rfl rfl) ⟨Ext.refl _, rfl⟩
 intro a2 wd2 hN_2 hD_2 hO hR hA hU
 obtain ⟨_, _, _, _, t4, _⟩ := hA
 have hE_2 := hE_1.trans hR
 have s4_2 : get a2 4 = w32 (rot x n) := t4
 clear hE_1 hN_1 hD_1 s0_1 s1_1
 refine tail_nil ?_
 refine wp_ret ?_
 refine res_one (V := w32 (rot x n)) rfl hD_2 s4_2 ?_
 exact ⟨rfl, hE_2⟩

end Go.Proofs.YtaeohnkfmachfabDoor
