/- The walks of functions of the program: printed. -/
import Derived.Test.YtaeohnkfmachfabDoorK
import Derived.Test.YtaeohnkfmachfabDoorG3
import Derived.Test.YtaeohnkfmachfabDoorF0
set_option maxRecDepth 100000
namespace Go.Proofs.YtaeohnkfmachfabDoor
open Go Go.RowKit Sk Sd
theorem ofEnds (l : List Dg) (x1 : Value) (w0 : World) (hx1 : SlT DG 0 0 l x1 w0) (hn : l.length ≤ 100000) :
    Gives Tryd.prog 41 #[x1] w0 (Pr.ex (Dg.val (tied ⟨35, 0, 0, 0⟩ l))) := by
 refine enter (N := 19) Tryd.func41 rfl rfl ?_
 intro a0 hN_0 hD_0 hA
 have s0_0 : get a0 0 = x1 := hA 0 _ rfl
 clear hA
 have hE_0 : Ext w0 w0 := Ext.refl w0
 have hsx1_0 := hx1.close
 refine wp_seq ?_
 refine region_lex [2] [(2, Pr.box' w0.heap.size 24 [w32 (Dg.zero).a, w32 (Dg.zero).b, w32 (Dg.zero).c, w32 (Dg.zero).d])] 1 hN_0 hD_0 (by kernel_rfl) (by kernel_rfl) ?_ ?_
 refine Asks.cons ?_ (Asks.zero _)
 refine Ask.fresh rfl rfl ?_
 intro aq wq hNq hO hR hT
 exact does_alloc zero_24 (fun b w2 he hlo hb => ⟨he, ⟨b, rfl, Nat.le_trans hR.size' hlo, hb⟩, ⟨b, rfl, hlo, hb.lt⟩⟩)
 intro a1 wd1 hN_1 hD_1 hO hR hA hU
 obtain ⟨t2, _⟩ := hA
 have hE_1 := hE_0.trans hR
 have s0_1 := (hO 0 rfl).trans s0_0
 have hsx1_1 := hsx1_0.ext' hR
 obtain ⟨b2, s2_1, lo_b2, hbb2_1⟩ := t2
 have nb_x1_b2 := SlT.old hsx1_0 lo_b2
 have fr_b2 : w0.heap.size ≤ b2 := Nat.le_trans hE_0.size' lo_b2
 clear hE_0 hN_0 hD_0 s0_0 hsx1_0
 refine tail_nil ?_
 refine wp_seq ?_
 refine region_lex [3] [(5, Pr.ex (Dg.val ((⟨(35 : UInt32), 0, 0, 0⟩ : Dg)))), (3, Pr.box' wd1.heap.size 24 [w32 (Dg.zero).a, w32 (Dg.zero).b, w32 (Dg.zero).c, w32 (Dg.zero).d])] 2 hN_1 hD_1 (by kernel_rfl) (by kernel_rfl) ?_ ?_
 refine Asks.cons ?_ (Asks.cons ?_ (Asks.zero _))
 exact Ask.plain rfl rfl fun aq wq hNq hO hR hT => does_build (vs := #[(0, w32 (35))]) (V := Dg.val ((⟨(35 : UInt32), 0, 0, 0⟩ : Dg))) (parts1 rfl) (by kernel_rfl) ⟨Ext.refl _, rfl⟩
 refine Ask.fresh rfl rfl ?_
 intro aq wq hNq hO hR hT
 exact does_alloc zero_24 (fun b w2 he hlo hb => ⟨he, ⟨b, rfl, Nat.le_trans hR.size' hlo, hb⟩, ⟨b, rfl, hlo, hb.lt⟩⟩)
 intro a2 wd2 hN_2 hD_2 hO hR hA hU
 obtain ⟨t5, t3, _⟩ := hA
 have hE_2 := hE_1.trans hR
 have s0_2 := (hO 0 rfl).trans s0_1
 have s2_2 := (hO 2 rfl).trans s2_1
 have hbb2_2 := hbb2_1.ext' hR
 have hsx1_2 := hsx1_1.ext' hR
 have s5_2 : get a2 5 = Dg.val ((⟨(35 : UInt32), 0, 0, 0⟩ : Dg)) := t5
 obtain ⟨b3, s3_2, lo_b3, hbb3_2⟩ := t3
 have ne_b2_b3 : b2 ≠ b3 := fun e => Nat.lt_irrefl _ (Nat.lt_of_lt_of_le hbb2_1.lt (e ▸ lo_b3))
 have nb_x1_b3 := SlT.old hsx1_1 lo_b3
 have fr_b3 : w0.heap.size ≤ b3 := Nat.le_trans hE_1.size' lo_b3
 clear hE_1 hN_1 hD_1 s0_1 s2_1 hbb2_1 hsx1_1
 refine tail_none rfl rfl (does_storeD (o := 0) (n := 4) (cs' := [w32 ((⟨(35 : UInt32), 0, 0, 0⟩ : Dg)).a, w32 ((⟨(35 : UInt32), 0, 0, 0⟩ : Dg)).b, w32 ((⟨(35 : UInt32), 0, 0, 0⟩ : Dg)).c, w32 ((⟨(35 : UInt32), 0, 0, 0⟩ : Dg)).d]) (V := Dg.val ((⟨(35 : UInt32), 0, 0, 0⟩ : Dg))) s3_2 s5_2 hbb3_2 (Nat.le_of_ble_eq_true rfl) rfl siz_24 rfl rfl (fun wd3 hX hz hbb3_3 => ?_))
 have hE_3 := hE_2.since hX (fun k e => e ▸ fr_b3)
 have hbb2_3 := hbb2_2.ext hX ne_b2_b3
 have hsx1_3 := SlT.over hsx1_2 hX nb_x1_b3
 clear hX hz hE_2 hbb2_2 hbb3_2 hsx1_2
 refine tail_nil ?_
 refine wp_seq ?_
 refine wp_seq ?_
 refine region_lex [] [(4, Pr.ex (i64 ((0 : Nat) : Int)))] 1 hN_2 hD_2 (by kernel_rfl) (by kernel_rfl) ?_ ?_
 refine Asks.cons ?_ (Asks.zero _)
 exact Ask.plain rfl rfl fun aq wq hNq hO hR hT => does_assign (V := i64 ((0 : Nat) : Int)) rfl ⟨Ext.refl _, rfl⟩
 intro a4 wd4 hN_4 hD_4 hO hR hA hU
 obtain ⟨t4, _⟩ := hA
 have hE_4 := hE_3.trans hR
 have s0_4 := (hO 0 rfl).trans s0_2
 have s2_4 := (hO 2 rfl).trans s2_2
 have s3_4 := (hO 3 rfl).trans s3_2
 have hbb2_4 := hbb2_3.ext' hR
 have hbb3_4 := hbb3_3.ext' hR
 have hsx1_4 := hsx1_3.ext' hR
 have s4_4 : get a4 4 = i64 ((0 : Nat) : Int) := t4
 clear hE_3 hN_2 hD_2 s0_2 s2_2 s3_2 s5_2 hbb2_3 hbb3_3 hsx1_3
 refine tail_nil ?_
 refine wp_block ?_
 refine loop_g (fun mz az wz => ∃ k : Nat, mz = l.length - k ∧ (az.tmps.size = 19) ∧ (az.defers = []) ∧ (get az 0 = x1) ∧ (get az 2 = Value.pointer (some ⟨b2, 0, none⟩)) ∧ (get az 3 = Value.pointer (some ⟨b3, 0, none⟩)) ∧ (get az 4 = i64 ((k : Nat) : Int)) ∧ (Ext w0 wz) ∧ (Has wz b2 24 [w32 (Dg.zero).a, w32 (Dg.zero).b, w32 (Dg.zero).c, w32 (Dg.zero).d]) ∧ (Has wz b3 24 [w32 (tied (⟨(35 : UInt32), (0 : UInt32), (0 : UInt32), (0 : UInt32)⟩ : Dg) (l.take k)).a, w32 (tied (⟨(35 : UInt32), (0 : UInt32), (0 : UInt32), (0 : UInt32)⟩ : Dg) (l.take k)).b, w32 (tied (⟨(35 : UInt32), (0 : UInt32), (0 : UInt32), (0 : UInt32)⟩ : Dg) (l.take k)).c, w32 (tied (⟨(35 : UInt32), (0 : UInt32), (0 : UInt32), (0 : UInt32)⟩ : Dg) (l.take k)).d]) ∧ (SlT DG 0 (w0.heap.size + 1) (l) x1 wz) ∧ (k ≤ l.length)) ?_ ?_
 exact ⟨_, 0, rfl, hN_4, hD_4, s0_4, s2_4, s3_4, s4_4, hE_4, hbb2_4, hbb3_4, hsx1_4, Nat.zero_le _⟩
 rintro mz a5 wd5 ⟨k, rfl, hN_5, hD_5, s0_5, s2_5, s3_5, s4_5, hE_5, hbb2_5, hbb3_5, hsx1_5, hk⟩
 refine wp_seq ?_
 refine wp_seq ?_
 refine region_lex [] [(6, Pr.ex (i64 ((k : Nat) : Int))), (7, Pr.ex (x1)), (8, Pr.ex (i64 ((l.length : Nat) : Int))), (9, Pr.ex (Value.bool (decide (((k : Nat) : Int) < ((l.length : Nat) : Int)))))] 4 hN_5 hD_5 (by kernel_rfl) (by kernel_rfl) ?_ ?_
 refine Asks.cons ?_ (Asks.cons ?_ (Asks.cons ?_ (Asks.cons ?_ (Asks.zero _))))
 exact Ask.plain rfl rfl fun aq wq hNq hO hR hT => does_move (V := i64 ((k : Nat) : Int)) ((hO 4 rfl).trans s4_5) ⟨Ext.refl _, rfl⟩
 exact Ask.plain rfl rfl fun aq wq hNq hO hR hT => does_move (V := x1) ((hO 0 rfl).trans s0_5) ⟨Ext.refl _, rfl⟩
 exact Ask.plain rfl rfl fun aq wq hNq hO hR hT => does_len (T := DG) (xs := l) sli_34 (SlT.at (hT 7 rfl rfl) (hsx1_5.ext' hR)) ⟨Ext.refl _, rfl⟩
 exact Ask.plain rfl rfl fun aq wq hNq hO hR hT => does_lss (a := ((k : Nat) : Int)) (b := ((l.length : Nat) : Int)) (hT 6 rfl rfl) (hT 8 rfl rfl) ⟨Ext.refl _, rfl⟩
 intro a6 wd6 hN_6 hD_6 hO hR hA hU
 obtain ⟨_, _, _, t9, _⟩ := hA
 have hE_6 := hE_5.trans hR
 have s0_6 := (hO 0 rfl).trans s0_5
 have s2_6 := (hO 2 rfl).trans s2_5
 have s3_6 := (hO 3 rfl).trans s3_5
 have s4_6 := (hO 4 rfl).trans s4_5
 have hbb2_6 := hbb2_5.ext' hR
 have hbb3_6 := hbb3_5.ext' hR
 have hsx1_6 := hsx1_5.ext' hR
 have s9_6 : get a6 9 = Value.bool (decide (((k : Nat) : Int) < ((l.length : Nat) : Int))) := t9
 clear hE_5 hN_5 hD_5 s0_5 s2_5 s3_5 s4_5 hbb2_5 hbb3_5 hsx1_5
 refine tail_nil ?_
 refine wp_if (B := decide (((k : Nat) : Int) < ((l.length : Nat) : Int))) s9_6 (fun hc0 => ?_) (fun hc0 => ?_)
 have hc0 := of_decide_eq_true hc0
 obtain ⟨y, hy⟩ := get_of_lt (l := l) (k := k) (by omega)
 refine wp_skip ?_
 refine wp_seq ?_
 refine wp_block ?_
 refine region_any [] [(12, Pr.ex (Dg.val (tied (⟨(35 : UInt32), (0 : UInt32), (0 : UInt32), (0 : UInt32)⟩ : Dg) (l.take k)))), (13, Pr.ex (x1)), (14, Pr.ex (i64 ((k : Nat) : Int))), (15, Pr.pt' 0 (w0.heap.size + 1) [w32 (y).a, w32 (y).b, w32 (y).c, w32 (y).d]), (16, Pr.ex (Dg.val (y))), (17, Pr.ex (Dg.val (pair (tied (⟨(35 : UInt32), (0 : UInt32), (0 : UInt32), (0 : UInt32)⟩ : Dg) (l.take k)) y)))] 6 mixed hN_6 hD_6 (by kernel_rfl) (by kernel_rfl) (by kernel_rfl) ?_ ?_
 refine Asks.cons ?_ (Asks.cons ?_ (Asks.cons ?_ (Asks.cons ?_ (Asks.cons ?_ (Asks.cons ?_ (Asks.zero _))))))
 exact Ask.plainD rfl rfl fun aq wq hNq hO hR hT => does_loadD (o := 0) (n := 4) (mid := [w32 (tied (⟨(35 : UInt32), (0 : UInt32), (0 : UInt32), (0 : UInt32)⟩ : Dg) (l.take k)).a, w32 (tied (⟨(35 : UInt32), (0 : UInt32), (0 : UInt32), (0 : UInt32)⟩ : Dg) (l.take k)).b, w32 (tied (⟨(35 : UInt32), (0 : UInt32), (0 : UInt32), (0 : UInt32)⟩ : Dg) (l.take k)).c, w32 (tied (⟨(35 : UInt32), (0 : UInt32), (0 : UInt32), (0 : UInt32)⟩ : Dg) (l.take k)).d]) ((hO 3 rfl).trans s3_6) (hbb3_6.ext' hR) rfl rfl (Nat.le_of_ble_eq_true rfl) row_24 rfl ⟨Ext.refl _, rfl⟩
 exact Ask.plainD rfl rfl fun aq wq hNq hO hR hT => does_move (V := x1) ((hO 0 rfl).trans s0_6) ⟨Ext.refl _, rfl⟩
 exact Ask.plainD rfl rfl fun aq wq hNq hO hR hT => does_move (V := i64 ((k : Nat) : Int)) ((hO 4 rfl).trans s4_6) ⟨Ext.refl _, rfl⟩
 exact Ask.plainD rfl rfl fun aq wq hNq hO hR hT => does_indexSl (T := DG) (xs := l) (i := ((k : Nat) : Int)) (X := y) sli_34 rfl (SlT.at (hT 13 rfl rfl) (hsx1_6.ext' hR)) (hT 14 rfl rfl) (by omega) hy (fun v h => ⟨Ext.refl _, h⟩)
 exact Ask.plainD rfl rfl fun aq wq hNq hO hR hT => does_loadP (cs := [w32 (y).a, w32 (y).b, w32 (y).c, w32 (y).d]) (hT 15 rfl rfl) row_24 rfl ⟨Ext.refl _, rfl⟩
 exact Ask.plainD rfl rfl fun aq wq hNq hO hR hT => does_ret (vs := #[Dg.val (tied (⟨(35 : UInt32), (0 : UInt32), (0 : UInt32), (0 : UInt32)⟩ : Dg) (l.take k)), Dg.val (y)]) call_48 (args2 (hT 12 rfl rfl) (hT 16 rfl rfl)) rfl ((pairR (tied (⟨(35 : UInt32), (0 : UInt32), (0 : UInt32), (0 : UInt32)⟩ : Dg) (l.take k)) (y) wq).mono fun v w2 h => ⟨h.2, h.1⟩)
 intro a7 wd7 hN_7 hD_7 hO hR hA hU
 obtain ⟨_, _, _, _, _, t17, _⟩ := hA
 have hE_7 := hE_6.trans hR
 have s0_7 := (hO 0 rfl).trans s0_6
 have s2_7 := (hO 2 rfl).trans s2_6
 have s3_7 := (hO 3 rfl).trans s3_6
 have s4_7 := (hO 4 rfl).trans s4_6
 have hbb2_7 := hbb2_6.ext' hR
 have hbb3_7 := hbb3_6.ext' hR
 have hsx1_7 := hsx1_6.ext' hR
 have s17_7 : get a7 17 = Dg.val (pair (tied (⟨(35 : UInt32), (0 : UInt32), (0 : UInt32), (0 : UInt32)⟩ : Dg) (l.take k)) y) := t17
 clear hE_6 hN_6 hD_6 s0_6 s2_6 s3_6 s4_6 s9_6 hbb2_6 hbb3_6 hsx1_6
 refine tail_none rfl rfl (does_storeD (o := 0) (n := 4) (cs' := [w32 (pair (tied (⟨(35 : UInt32), (0 : UInt32), (0 : UInt32), (0 : UInt32)⟩ : Dg) (l.take k)) y).a, w32 (pair (tied (⟨(35 : UInt32), (0 : UInt32), (0 : UInt32), (0 : UInt32)⟩ : Dg) (l.take k)) y).b, w32 (pair (tied (⟨(35 : UInt32), (0 : UInt32), (0 : UInt32), (0 : UInt32)⟩ : Dg) (l.take k)) y).c, w32 (pair (tied (⟨(35 : UInt32), (0 : UInt32), (0 : UInt32), (0 : UInt32)⟩ : Dg) (l.take k)) y).d]) (V := Dg.val (pair (tied (⟨(35 : UInt32), (0 : UInt32), (0 : UInt32), (0 : UInt32)⟩ : Dg) (l.take k)) y)) s3_7 s17_7 hbb3_7 (Nat.le_of_ble_eq_true rfl) rfl siz_24 rfl rfl (fun wd8 hX hz hbb3_8 => ?_))
 have hE_8 := hE_7.since hX (fun k e => e ▸ fr_b3)
 have hbb2_8 := hbb2_7.ext hX ne_b2_b3
 have hsx1_8 := SlT.over hsx1_7 hX nb_x1_b3
 clear hX hz hE_7 hbb2_7 hbb3_7 hsx1_7
 refine tail_nil ?_
 refine region_lex [] [(10, Pr.ex (i64 ((k : Nat) : Int))), (11, Pr.ex (i64 ((k + 1 : Nat) : Int)))] 2 hN_7 hD_7 (by kernel_rfl) (by kernel_rfl) ?_ ?_
 refine Asks.cons ?_ (Asks.cons ?_ (Asks.zero _))
 exact Ask.plain rfl rfl fun aq wq hNq hO hR hT => does_move (V := i64 ((k : Nat) : Int)) ((hO 4 rfl).trans s4_7) ⟨Ext.refl _, rfl⟩
 exact Ask.plain rfl rfl fun aq wq hNq hO hR hT => does_add (a := ((k : Nat) : Int)) (b := ((1 : Nat) : Int)) (r := ((k + 1 : Nat) : Int)) (hT 10 rfl rfl) rfl (by omega) (by omega) (by omega) ⟨Ext.refl _, rfl⟩
 intro a9 wd9 hN_9 hD_9 hO hR hA hU
 obtain ⟨_, t11, _⟩ := hA
 have hE_9 := hE_8.trans hR
 have s0_9 := (hO 0 rfl).trans s0_7
 have s2_9 := (hO 2 rfl).trans s2_7
 have s3_9 := (hO 3 rfl).trans s3_7
 have s4_9 := (hO 4 rfl).trans s4_7
 have hbb2_9 := hbb2_8.ext' hR
 have hbb3_9 := hbb3_8.ext' hR
 have hsx1_9 := hsx1_8.ext' hR
 have s11_9 : get a9 11 = i64 ((k + 1 : Nat) : Int) := t11
 clear hE_8 hN_7 hD_7 s0_7 s2_7 s3_7 s4_7 s17_7 hbb2_8 hbb3_8 hsx1_8
 refine tail_put rfl rfl hN_9 hD_9 (by decide) (does_assign (V := i64 ((k + 1 : Nat) : Int)) s11_9 (fun a10 hN_10 hD_10 hv hO => ?_))
 have s4_10 := hv
 have s0_10 := (hO 0 rfl).trans s0_9
 have s2_10 := (hO 2 rfl).trans s2_9
 have s3_10 := (hO 3 rfl).trans s3_9
 clear hO hv hN_9 hD_9 s0_9 s2_9 s3_9 s11_9 s4_9
 refine tail_nil ?_
 exact ⟨_, by omega, k + 1, rfl, hN_10, hD_10, s0_10, s2_10, s3_10, s4_10, hE_9, hbb2_9, (by have h := hbb3_9; rw [← tied_take _ hy] at h; exact h), hsx1_9, by omega⟩
 have hc0 := of_decide_eq_false hc0
 have hkl : l.take k = l := List.take_of_length_le (by omega)
 refine wp_exit ?_
 refine wp_seq ?_
 refine region_lex [] [(18, Pr.ex (Dg.val (tied (⟨(35 : UInt32), (0 : UInt32), (0 : UInt32), (0 : UInt32)⟩ : Dg) (l.take k))))] 1 hN_6 hD_6 (by kernel_rfl) (by kernel_rfl) ?_ ?_
 refine Asks.cons ?_ (Asks.zero _)
 exact Ask.plain rfl rfl fun aq wq hNq hO hR hT => does_loadD (o := 0) (n := 4) (mid := [w32 (tied (⟨(35 : UInt32), (0 : UInt32), (0 : UInt32), (0 : UInt32)⟩ : Dg) (l.take k)).a, w32 (tied (⟨(35 : UInt32), (0 : UInt32), (0 : UInt32), (0 : UInt32)⟩ : Dg) (l.take k)).b, w32 (tied (⟨(35 : UInt32), (0 : UInt32), (0 : UInt32), (0 : UInt32)⟩ : Dg) (l.take k)).c, w32 (tied (⟨(35 : UInt32), (0 : UInt32), (0 : UInt32), (0 : UInt32)⟩ : Dg) (l.take k)).d]) ((hO 3 rfl).trans s3_6) (hbb3_6.ext' hR) rfl rfl (Nat.le_of_ble_eq_true rfl) row_24 rfl ⟨Ext.refl _, rfl⟩
 intro a11 wd11 hN_11 hD_11 hO hR hA hU
 obtain ⟨t18, _⟩ := hA
 have hE_11 := hE_6.trans hR
 have s2_11 := (hO 2 rfl).trans s2_6
 have hbb2_11 := hbb2_6.ext' hR
 have hbb3_11 := hbb3_6.ext' hR
 have hsx1_11 := hsx1_6.ext' hR
 have s18_11 : get a11 18 = Dg.val (tied (⟨(35 : UInt32), (0 : UInt32), (0 : UInt32), (0 : UInt32)⟩ : Dg) (l.take k)) := t18
 clear hE_6 hN_6 hD_6 s0_6 s2_6 s3_6 s4_6 s9_6 hbb2_6 hbb3_6 hsx1_6
 refine tail_none rfl rfl (does_storeD (o := 0) (n := 4) (cs' := [w32 (tied (⟨(35 : UInt32), (0 : UInt32), (0 : UInt32), (0 : UInt32)⟩ : Dg) (l.take k)).a, w32 (tied (⟨(35 : UInt32), (0 : UInt32), (0 : UInt32), (0 : UInt32)⟩ : Dg) (l.take k)).b, w32 (tied (⟨(35 : UInt32), (0 : UInt32), (0 : UInt32), (0 : UInt32)⟩ : Dg) (l.take k)).c, w32 (tied (⟨(35 : UInt32), (0 : UInt32), (0 : UInt32), (0 : UInt32)⟩ : Dg) (l.take k)).d]) (V := Dg.val (tied (⟨(35 : UInt32), (0 : UInt32), (0 : UInt32), (0 : UInt32)⟩ : Dg) (l.take k))) s2_11 s18_11 hbb2_11 (Nat.le_of_ble_eq_true rfl) rfl siz_24 rfl rfl (fun wd12 hX hz hbb2_12 => ?_))
 have hE_12 := hE_11.since hX (fun k e => e ▸ fr_b2)
 have hbb3_12 := hbb3_11.ext hX ne_b2_b3.symm
 have hsx1_12 := SlT.over hsx1_11 hX nb_x1_b2
 clear hX hz hE_11 hbb2_11 hbb3_11 hsx1_11
 refine tail_nil ?_
 refine wp_ret ?_
 refine res_one (V := Dg.val (tied (⟨(35 : UInt32), (0 : UInt32), (0 : UInt32), (0 : UInt32)⟩ : Dg) (l.take k))) rfl hD_11 (ResIs.cell s2_11 hbb2_12 row_24 rfl rfl) ?_
 exact ⟨by show Dg.val _ = Dg.val _; rw [hkl], hE_12⟩

end Go.Proofs.YtaeohnkfmachfabDoor
