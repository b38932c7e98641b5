/- The walks of functions of the program: printed. -/
import Derived.Test.YtijfjpbahepegaaDoorK
import Derived.Test.YtijfjpbahepegaaDoorG3
import Derived.Test.YtijfjpbahepegaaDoorG60
import Derived.Test.YtijfjpbahepegaaDoorG64
import Derived.Test.YtijfjpbahepegaaDoorF0
set_option maxRecDepth 100000
namespace Go.Proofs.YtijfjpbahepegaaDoor
open Go Go.RowKit Sk Sd
theorem ofEnds (l : List Dg) (x1 : Value) (w0 : World) (hx1 : SlT DG 0 0 l x1 w0) (hn : l.length ≤ 100000) :
    Gives Tryd.prog 98 #[x1] w0 (Pr.ex (Dg.val (tied ⟨35, 0, 0, 0⟩ l))) := by
 refine enter (N := 19) Tryd.func98 rfl rfl ?_
 intro a0 hN_0 hD_0 hA
 have s0_0 : get a0 0 = x1 := hA 0 _ rfl
 clear hA
 have hE_0 : Ext w0 w0 := Ext.refl w0
 have hsx1_0 := hx1.close
 refine wp_seq ?_
 refine region_lex [2] [(2, Pr.box' w0.heap.size 27 [w32 (Dg.zero).a, w32 (Dg.zero).b, w32 (Dg.zero).c, w32 (Dg.zero).d])] 1 hN_0 hD_0 (by kernel_rfl) (by kernel_rfl) ?_ ?_
 refine Asks.cons ?_ (Asks.zero _)
 refine Ask.fresh rfl rfl ?_
 intro aq wq hNq hO hR hT
 exact does_alloc zero_27 (fun b w2 he hlo hb => ⟨he, ⟨b, rfl, Nat.le_trans hR.size' hlo, hb⟩, ⟨b, rfl, hlo, hb.lt⟩⟩)
 intro a1 wd1 hN_1 hD_1 hO hR hA hU
 obtain ⟨t2, _⟩ := hA
 have hE_1 := hE_0.trans hR
 have s0_1 := (hO 0 rfl).trans s0_0
 have hsx1_1 := hsx1_0.ext' hR
 obtain ⟨b2, s2_1, lo_b2, hbb2_1⟩ := t2
 have nb_x1_b2 := SlT.old hsx1_0 lo_b2
 have fr_b2 : w0.heap.size ≤ b2 := Nat.le_trans hE_0.size' lo_b2
 clear hE_0 hN_0 hD_0 s0_0 hsx1_0
 refine tail_nil ?_
 refine wp_seq ?_
 refine region_lex [3] [(5, Pr.ex (Dg.val ((⟨(35 : UInt32), 0, 0, 0⟩ : Dg)))), (3, Pr.box' wd1.heap.size 27 [w32 (Dg.zero).a, w32 (Dg.zero).b, w32 (Dg.zero).c, w32 (Dg.zero).d])] 2 hN_1 hD_1 (by kernel_rfl) (by kernel_rfl) ?_ ?_
 refine Asks.cons ?_ (Asks.cons ?_ (Asks.zero _))
 exact Ask.plain rfl rfl fun aq wq hNq hO hR hT => does_build (vs := #[(0, w32 (35))]) (V := Dg.val ((⟨(35 : UInt32), 0, 0, 0⟩ : Dg))) (parts1 rfl) (by kernel_rfl) ⟨Ext.refl _, rfl⟩
 refine Ask.fresh rfl rfl ?_
 intro aq wq hNq hO hR hT
 exact does_alloc zero_27 (fun b w2 he hlo hb => ⟨he, ⟨b, rfl, Nat.le_trans hR.size' hlo, hb⟩, ⟨b, rfl, hlo, hb.lt⟩⟩)
 intro a2 wd2 hN_2 hD_2 hO hR hA hU
 obtain ⟨t5, t3, _⟩ := hA
 have hE_2 := hE_1.trans hR
 have s0_2 := (hO 0 rfl).trans s0_1
 have s2_2 := (hO 2 rfl).trans s2_1
 have hbb2_2 := hbb2_1.ext' hR
 have hsx1_2 := hsx1_1.ext' hR
 have s5_2 : get a2 5 = Dg.val ((⟨(35 : UInt32), 0, 0, 0⟩ : Dg)) := t5
 obtain ⟨b3, s3_2, lo_b3, hbb3_2⟩ := t3
 have ne_b2_b3 : b2 ≠ b3 := fun e => Nat.lt_irrefl _ (Nat.lt_of_lt_of_le hbb2_1.lt (e ▸ lo_b3))
 have nb_x1_b3 := SlT.old hsx1_1 lo_b3
 have fr_b3 : w0.heap.size ≤ b3 := Nat.le_trans hE_1.size' lo_b3
 clear hE_1 hN_1 hD_1 s0_1 s2_1 hbb2_1 hsx1_1
 refine tail_none rfl rfl (does_storeD (o := 0) (n := 4) (cs' := [w32 ((⟨(35 : UInt32), 0, 0, 0⟩ : Dg)).a, w32 ((⟨(35 : UInt32), 0, 0, 0⟩ : Dg)).b, w32 ((⟨(35 : UInt32), 0, 0, 0⟩ : Dg)).c, w32 ((⟨(35 : UInt32), 0, 0, 0⟩ : Dg)).d]) (V := Dg.val ((⟨(35 : UInt32), 0, 0, 0⟩ : Dg))) s3_2 s5_2 hbb3_2 (Nat.le_of_ble_eq_true rfl) rfl siz_27 rfl rfl (fun wd3 hX hz hbb3_3 => ?_))
 have hE_3 := hE_2.since hX (fun k e => e ▸ fr_b3)
 have hbb2_3 := hbb2_2.ext hX ne_b2_b3
 have hsx1_3 := SlT.over hsx1_2 hX nb_x1_b3
 clear hX hz hE_2 hbb2_2 hbb3_2 hsx1_2
 refine tail_nil ?_
 refine wp_seq ?_
 refine wp_seq ?_
 refine region_lex [] [(4, Pr.ex (i64 ((0 : Nat) : Int)))] 1 hN_2 hD_2 (by kernel_rfl) (by kernel_rfl) ?_ ?_
 refine Asks.cons ?_ (Asks.zero _)
 exact Ask.plain rfl rfl fun aq wq hNq hO hR hT => does_assign (V := i64 ((0 : Nat) : Int)) rfl ⟨Ext.refl _, rfl⟩
 intro a4 wd4 hN_4 hD_4 hO hR hA hU
 obtain ⟨t4, _⟩ := hA
 have hE_4 := hE_3.trans hR
 have s0_4 := (hO 0 rfl).trans s0_2
 have s2_4 := (hO 2 rfl).trans s2_2
 have s3_4 := (hO 3 rfl).trans s3_2
 have hbb2_4 := hbb2_3.ext' hR
 have hbb3_4 := hbb3_3.ext' hR
 have hsx1_4 := hsx1_3.ext' hR
 have s4_4 : get a4 4 = i64 ((0 : Nat) : Int) := t4
 clear hE_3 hN_2 hD_2 s0_2 s2_2 s3_2 s5_2 hbb2_3 hbb3_3 hsx1_3
 refine tail_nil ?_
 refine wp_block ?_
 refine loop_g (fun mz az wz => ∃ k : Nat, mz = l.length - k ∧ (az.tmps.size = 19) ∧ (az.defers = []) ∧ (get az 0 = x1) ∧ (get az 2 = Value.pointer (some ⟨b2, 0, none⟩)) ∧ (get az 3 = Value.pointer (some ⟨b3, 0, none⟩)) ∧ (get az 4 = i64 ((k : Nat) : Int)) ∧ (Ext w0 wz) ∧ (Has wz b2 27 [w32 (Dg.zero).a, w32 (Dg.zero).b, w32 (Dg.zero).c, w32 (Dg.zero).d]) ∧ (Has wz b3 27 [w32 (tied (⟨(35 : UInt32), (0 : UInt32), (0 : UInt32), (0 : UInt32)⟩ : Dg) (l.take k)).a, w32 (tied (⟨(35 : UInt32), (0 : UInt32), (0 : UInt32), (0 : UInt32)⟩ : Dg) (l.take k)).b, w32 (tied (⟨(35 : UInt32), (0 : UInt32), (0 : UInt32), (0 : UInt32)⟩ : Dg) (l.take k)).c, w32 (tied (⟨(35 : UInt32), (0 : UInt32), (0 : UInt32), (0 : UInt32)⟩ : Dg) (l.take k)).d]) ∧ (SlT DG 0 (w0.heap.size + 1) (l) x1 wz) ∧ (k ≤ l.length)) ?_ ?_
 exact ⟨_, 0, rfl, hN_4, hD_4, s0_4, s2_4, s3_4, s4_4, hE_4, hbb2_4, hbb3_4, hsx1_4, Nat.zero_le _⟩
 rintro mz a5 wd5 ⟨k, rfl, hN_5, hD_5, s0_5, s2_5, s3_5, s4_5, hE_5, hbb2_5, hbb3_5, hsx1_5, hk⟩
 refine wp_seq ?_
 refine wp_seq ?_
 refine region_lex [] [(6, Pr.ex (i64 ((k : Nat) : Int))), (7, Pr.ex (x1)), (8, Pr.ex (i64 ((l.length : Nat) : Int))), (9, Pr.ex (Value.bool (decide (((k : Nat) : Int) < ((l.length : Nat) : Int)))))] 4 hN_5 hD_5 (by kernel_rfl) (by kernel_rfl) ?_ ?_
 refine Asks.cons ?_ (Asks.cons ?_ (Asks.cons ?_ (Asks.cons ?_ (Asks.zero _))))
 exact Ask.plain rfl rfl fun aq wq hNq hO hR hT => does_move (V := i64 ((k : Nat) : Int)) ((hO 4 rfl).trans s4_5) ⟨Ext.refl _, rfl⟩
 exact Ask.plain rfl rfl fun aq wq hNq hO hR hT => does_move (V := x1) ((hO 0 rfl).trans s0_5) ⟨Ext.refl _, rfl⟩
 exact Ask.plain rfl rfl fun aq wq hNq hO hR hT => does_len (T := DG) (xs := l) sli_41 (SlT.at (hT 7 rfl rfl) (hsx1_5.ext' hR)) ⟨Ext.refl _, rfl⟩
 exact Ask.plain rfl rfl fun aq wq hNq hO hR hT => does_lss (a := ((k : Nat) : Int)) (b := ((l.length : Nat) : Int)) (hT 6 rfl rfl) (hT 8 rfl rfl) ⟨Ext.refl _, rfl⟩
 intro a6 wd6 hN_6 hD_6 hO hR hA hU
 obtain ⟨_, _, _, t9, _⟩ := hA
 have hE_6 := hE_5.trans hR
 have s0_6 := (hO 0 rfl).trans s0_5
 have s2_6 := (hO 2 rfl).trans s2_5
 have s3_6 := (hO 3 rfl).trans s3_5
 have s4_6 := (hO 4 rfl).trans s4_5
 have hbb2_6 := hbb2_5.ext' hR
 have hbb3_6 := hbb3_5.ext' hR
 have hsx1_6 := hsx1_5.ext' hR
 have s9_6 : get a6 9 = Value.bool (decide (((k : Nat) : Int) < ((l.length : Nat) : Int))) := t9
 clear hE_5 hN_5 hD_5 s0_5 s2_5 s3_5 s4_5 hbb2_5 hbb3_5 hsx1_5
 refine tail_nil ?_
 refine wp_if (B := decide (((k : Nat) : Int) < ((l.length : Nat) : Int))) s9_6 (fun hc0 => ?_) (fun hc0 => ?_)
 have hc0 := of_decide_eq_true hc0
 obtain ⟨y, hy⟩ := get_of_lt (l := l) (k := k) (by omega)
 refine wp_skip ?_
 refine wp_seq ?_
 refine wp_block ?_
 refine region_any [] [(12, Pr.ex (Dg.val (tied (⟨(35 : UInt32), (0 : UInt32), (0 : UInt32), (0 : UInt32)⟩ : Dg) (l.take k)))), (13, Pr.ex (x1)), (14, Pr.ex (i64 ((k : Nat) : Int))), (15, Pr.pt' 0 (w0.heap.size + 1) [w32 (y).a, w32 (y).b, w32 (y).c, w32 (y).d]), (16, Pr.ex (Dg.val (y))), (17, Pr.ex (Dg.val (pair (tied (⟨(35 : UInt32), (0 : UInt32), (0 : UInt32), (0 : UInt32)⟩ : Dg) (l.take k)) y)))] 6 mixed hN_6 hD_6 (by kernel_rfl) (by kernel_rfl) (by kernel_rfl) ?_ ?_
 refine Asks.cons ?_ (Asks.cons ?_ (Asks.cons ?_ (Asks.cons ?_ (Asks.cons ?_ (Asks.cons ?_ (Asks.zero _))))))
 exact Ask.plainD rfl rfl fun aq wq hNq hO hR hT => does_loadD (o := 0) (n := 4) (mid := [w32 (tied (⟨(35 : UInt32), (0 : UInt32), (0 : UInt32), (0 : UInt32)⟩ : Dg) (l.take k)).a, w32 (tied (⟨(35 : UInt32), (0 : UInt32), (0 : UInt32), (0 : UInt32)⟩ : Dg) (l.take k)).b, w32 (tied (⟨(35 : UInt32), (0 : UInt32), (0 : UInt32), (0 : UInt32)⟩ : Dg) (l.take k)).c, w32 (tied (⟨(35 : UInt32), (0 : UInt32), (0 : UInt32), (0 : UInt32)⟩ : Dg) (l.take k)).d]) ((hO 3 rfl).trans s3_6) (hbb3_6.ext' hR) rfl rfl (Nat.le_of_ble_eq_true rfl) row_27 rfl ⟨Ext.refl _, rfl⟩
 exact Ask.plainD rfl rfl fun aq wq hNq hO hR hT => does_move (V := x1) ((hO 0 rfl).trans s0_6) ⟨Ext.refl _, rfl⟩
 exact Ask.plainD rfl rfl fun aq wq hNq hO hR hT => does_move (V := i64 ((k : Nat) : Int)) ((hO 4 rfl).trans s4_6) ⟨Ext.refl _, rfl⟩
 exact Ask.plainD rfl rfl fun aq wq hNq hO hR hT => does_indexSl (T := DG) (xs := l) (i := ((k : Nat) : Int)) (X := y) sli_41 rfl (SlT.at (hT 13 rfl rfl) (hsx1_6.ext' hR)) (hT 14 rfl rfl) (by omega) hy (fun v h => ⟨Ext.refl _, h⟩)
 exact Ask.plainD rfl rfl fun aq wq hNq hO hR hT => does_loadP (cs := [w32 (y).a, w32 (y).b, w32 (y).c, w32 (y).d]) (hT 15 rfl rfl) row_27 rfl ⟨Ext.refl _, rfl⟩
 exact Ask.plainD rfl rfl fun aq wq hNq hO hR hT => does_ret (vs := #[Dg.val (tied (⟨(35 : UInt32), (0 : UInt32), (0 : UInt32), (0 : UInt32)⟩ : Dg) (l.take k)), Dg.val (y)]) call_24 (args2 (hT 12 rfl rfl) (hT 16 rfl rfl)) rfl ((pairR (tied (⟨(35 : UInt32), (0 : UInt32), (0 : UInt32), (0 : UInt32)⟩ : Dg) (l.take k)) (y) wq).mono fun v w2 h => ⟨h.2, h.1⟩)
 intro a7 wd7 hN_7 hD_7 hO hR hA hU
 obtain ⟨_, _, _, _, _, t17, _⟩ := hA
 have hE_7 := hE_6.trans hR
 have s0_7 := (hO 0 rfl).trans s0_6
 have s2_7 := (hO 2 rfl).trans s2_6
 have s3_7 := (hO 3 rfl).trans s3_6
 have s4_7 := (hO 4 rfl).trans s4_6
 have hbb2_7 := hbb2_6.ext' hR
 have hbb3_7 := hbb3_6.ext' hR
 have hsx1_7 := hsx1_6.ext' hR
 have s17_7 : get a7 17 = Dg.val (pair (tied (⟨(35 : UInt32), (0 : UInt32), (0 : UInt32), (0 : UInt32)⟩ : Dg) (l.take k)) y) := t17
 clear hE_6 hN_6 hD_6 s0_6 s2_6 s3_6 s4_6 s9_6 hbb2_6 hbb3_6 hsx1_6
 refine tail_none rfl rfl (does_storeD (o := 0) (n := 4) (cs' := [w32 (pair (tied (⟨(35 : UInt32), (0 : UInt32), (0 : UInt32), (0 : UInt32)⟩ : Dg) (l.take k)) y).a, w32 (pair (tied (⟨(35 : UInt32), (0 : UInt32), (0 : UInt32), (0 : UInt32)⟩ : Dg) (l.take k)) y).b, w32 (pair (tied (⟨(35 : UInt32), (0 : UInt32), (0 : UInt32), (0 : UInt32)⟩ : Dg) (l.take k)) y).c, w32 (pair (tied (⟨(35 : UInt32), (0 : UInt32), (0 : UInt32), (0 : UInt32)⟩ : Dg) (l.take k)) y).d]) (V := Dg.val (pair (tied (⟨(35 : UInt32), (0 : UInt32), (0 : UInt32), (0 : UInt32)⟩ : Dg) (l.take k)) y)) s3_7 s17_7 hbb3_7 (Nat.le_of_ble_eq_true rfl) rfl siz_27 rfl rfl (fun wd8 hX hz hbb3_8 => ?_))
 have hE_8 := hE_7.since hX (fun k e => e ▸ fr_b3)
 have hbb2_8 := hbb2_7.ext hX ne_b2_b3
 have hsx1_8 := SlT.over hsx1_7 hX nb_x1_b3
 clear hX hz hE_7 hbb2_7 hbb3_7 hsx1_7
 refine tail_nil ?_
 refine region_lex [] [(10, Pr.ex (i64 ((k : Nat) : Int))), (11, Pr.ex (i64 ((k + 1 : Nat) : Int)))] 2 hN_7 hD_7 (by kernel_rfl) (by kernel_rfl) ?_ ?_
 refine Asks.cons ?_ (Asks.cons ?_ (Asks.zero _))
 exact Ask.plain rfl rfl fun aq wq hNq hO hR hT => does_move (V := i64 ((k : Nat) : Int)) ((hO 4 rfl).trans s4_7) ⟨Ext.refl _, rfl⟩
 exact Ask.plain rfl rfl fun aq wq hNq hO hR hT => does_add (a := ((k : Nat) : Int)) (b := ((1 : Nat) : Int)) (r := ((k + 1 : Nat) : Int)) (hT 10 rfl rfl) rfl (by omega) (by omega) (by omega) ⟨Ext.refl _, rfl⟩
 intro a9 wd9 hN_9 hD_9 hO hR hA hU
 obtain ⟨_, t11, _⟩ := hA
 have hE_9 := hE_8.trans hR
 have s0_9 := (hO 0 rfl).trans s0_7
 have s2_9 := (hO 2 rfl).trans s2_7
 have s3_9 := (hO 3 rfl).trans s3_7
 have s4_9 := (hO 4 rfl).trans s4_7
 have hbb2_9 := hbb2_8.ext' hR
 have hbb3_9 := hbb3_8.ext' hR
 have hsx1_9 := hsx1_8.ext' hR
 have s11_9 : get a9 11 = i64 ((k + 1 : Nat) : Int) := t11
 clear hE_8 hN_7 hD_7 s0_7 s2_7 s3_7 s4_7 s17_7 hbb2_8 hbb3_8 hsx1_8
 refine tail_put rfl rfl hN_9 hD_9 (by decide) (does_assign (V := i64 ((k + 1 : Nat) : Int)) s11_9 (fun a10 hN_10 hD_10 hv hO => ?_))
 have s4_10 := hv
 have s0_10 := (hO 0 rfl).trans s0_9
 have s2_10 := (hO 2 rfl).trans s2_9
 have s3_10 := (hO 3 rfl).trans s3_9
 clear hO hv hN_9 hD_9 s0_9 s2_9 s3_9 s11_9 s4_9
 refine tail_nil ?_
 exact ⟨_, by omega, k + 1, rfl, hN_10, hD_10, s0_10, s2_10, s3_10, s4_10, hE_9, hbb2_9, (by have h := hbb3_9; rw [← tied_take _ hy] at h; exact h), hsx1_9, by omega⟩
 have hc0 := of_decide_eq_false hc0
 have hkl : l.take k = l := List.take_of_length_le (by omega)
 refine wp_exit ?_
 refine wp_seq ?_
 refine region_lex [] [(18, Pr.ex (Dg.val (tied (⟨(35 : UInt32), (0 : UInt32), (0 : UInt32), (0 : UInt32)⟩ : Dg) (l.take k))))] 1 hN_6 hD_6 (by kernel_rfl) (by kernel_rfl) ?_ ?_
 refine Asks.cons ?_ (Asks.zero _)
 exact Ask.plain rfl rfl fun aq wq hNq hO hR hT => does_loadD (o := 0) (n := 4) (mid := [w32 (tied (⟨(35 : UInt32), (0 : UInt32), (0 : UInt32), (0 : UInt32)⟩ : Dg) (l.take k)).a, w32 (tied (⟨(35 : UInt32), (0 : UInt32), (0 : UInt32), (0 : UInt32)⟩ : Dg) (l.take k)).b, w32 (tied (⟨(35 : UInt32), (0 : UInt32), (0 : UInt32), (0 : UInt32)⟩ : Dg) (l.take k)).c, w32 (tied (⟨(35 : UInt32), (0 : UInt32), (0 : UInt32), (0 : UInt32)⟩ : Dg) (l.take k)).d]) ((hO 3 rfl).trans s3_6) (hbb3_6.ext' hR) rfl rfl (Nat.le_of_ble_eq_true rfl) row_27 rfl ⟨Ext.refl _, rfl⟩
 intro a11 wd11 hN_11 hD_11 hO hR hA hU
 obtain ⟨t18, _⟩ := hA
 have hE_11 := hE_6.trans hR
 have s2_11 := (hO 2 rfl).trans s2_6
 have hbb2_11 := hbb2_6.ext' hR
 have hbb3_11 := hbb3_6.ext' hR
 have hsx1_11 := hsx1_6.ext' hR
 have s18_11 : get a11 18 = Dg.val (tied (⟨(35 : UInt32), (0 : UInt32), (0 : UInt32), (0 : UInt32)⟩ : Dg) (l.take k)) := t18
 clear hE_6 hN_6 hD_6 s0_6 s2_6 s3_6 s4_6 s9_6 hbb2_6 hbb3_6 hsx1_6
 refine tail_none rfl rfl (does_storeD (o := 0) (n := 4) (cs' := [w32 (tied (⟨(35 : UInt32), (0 : UInt32), (0 : UInt32), (0 : UInt32)⟩ : Dg) (l.take k)).a, w32 (tied (⟨(35 : UInt32), (0 : UInt32), (0 : UInt32), (0 : UInt32)⟩ : Dg) (l.take k)).b, w32 (tied (⟨(35 : UInt32), (0 : UInt32), (0 : UInt32), (0 : UInt32)⟩ : Dg) (l.take k)).c, w32 (tied (⟨(35 : UInt32), (0 : UInt32), (0 : UInt32), (0 : UInt32)⟩ : Dg) (l.take k)).d]) (V := Dg.val (tied (⟨(35 : UInt32), (0 : UInt32), (0 : UInt32), (0 : UInt32)⟩ : Dg) (l.take k))) s2_11 s18_11 hbb2_11 (Nat.le_of_ble_eq_true rfl) rfl siz_27 rfl rfl (fun wd12 hX hz hbb2_12 => ?_))
 have hE_12 := hE_11.since hX (fun k e => e ▸ fr_b2)
 have hbb3_12 := hbb3_11.ext hX ne_b2_b3.symm
 have hsx1_12 := SlT.over hsx1_11 hX nb_x1_b2
 clear hX hz hE_11 hbb2_11 hbb3_11 hsx1_11
 refine tail_nil ?_
 refine wp_ret ?_
 refine res_one (V := Dg.val (tied (⟨(35 : UInt32), (0 : UInt32), (0 : UInt32), (0 : UInt32)⟩ : Dg) (l.take k))) rfl hD_11 (ResIs.cell s2_11 hbb2_12 row_27 rfl rfl) ?_
 exact ⟨by show Dg.val _ = Dg.val _; rw [hkl], hE_12⟩

theorem reachR (m : Dg) (s : List Dg) (x1 : Value) (w0 : World) (hx1 : SlT DG 0 0 s x1 w0) (hn : s.length ≤ 100000) :
    Gives Tryd.prog 75 #[Dg.val (m), x1] w0 (Pr.ex (Value.tuple #[Dg.val (reachO m s).1, Value.bool (reachO m s).2])) := by
 refine enter (N := 34) Tryd.func75 rfl rfl ?_
 intro a0 hN_0 hD_0 hA
 have s0_0 : get a0 0 = Dg.val (m) := hA 0 _ rfl
 have s1_0 : get a0 1 = x1 := hA 1 _ rfl
 clear hA
 have hE_0 : Ext w0 w0 := Ext.refl w0
 have hsx1_0 := hx1.close
 refine wp_seq ?_
 refine region_lex [2, 4] [(2, Pr.box' w0.heap.size 27 [w32 (m).a, w32 (m).b, w32 (m).c, w32 (m).d]), (4, Pr.box' w0.heap.size 27 [w32 (Dg.zero).a, w32 (Dg.zero).b, w32 (Dg.zero).c, w32 (Dg.zero).d]), (5, Pr.ex (Value.bool (false)))] 3 hN_0 hD_0 (by kernel_rfl) (by kernel_rfl) ?_ ?_
 refine Asks.cons ?_ (Asks.cons ?_ (Asks.cons ?_ (Asks.zero _)))
 refine Ask.fresh rfl rfl ?_
 intro aq wq hNq hO hR hT
 exact does_box (V := Dg.val (m)) ((hO 0 rfl).trans s0_0) (fun b w2 he hlo hb => ⟨he, ⟨b, rfl, Nat.le_trans hR.size' hlo, hb⟩, ⟨b, rfl, hlo, hb.lt⟩⟩)
 refine Ask.fresh rfl rfl ?_
 intro aq wq hNq hO hR hT
 exact does_alloc zero_27 (fun b w2 he hlo hb => ⟨he, ⟨b, rfl, Nat.le_trans hR.size' hlo, hb⟩, ⟨b, rfl, hlo, hb.lt⟩⟩)
 exact Ask.plain rfl rfl fun aq wq hNq hO hR hT => does_assign (V := Value.bool (false)) rfl ⟨Ext.refl _, rfl⟩
 intro a1 wd1 hN_1 hD_1 hO hR hA hU
 obtain ⟨t2, t4, _, _⟩ := hA
 have hE_1 := hE_0.trans hR
 have s1_1 := (hO 1 rfl).trans s1_0
 have hsx1_1 := hsx1_0.ext' hR
 obtain ⟨b2, s2_1, lo_b2, hbb2_1⟩ := t2
 have nb_x1_b2 := SlT.old hsx1_0 lo_b2
 have fr_b2 : w0.heap.size ≤ b2 := Nat.le_trans hE_0.size' lo_b2
 obtain ⟨b4, s4_1, lo_b4, hbb4_1⟩ := t4
 have nb_x1_b4 := SlT.old hsx1_0 lo_b4
 have fr_b4 : w0.heap.size ≤ b4 := Nat.le_trans hE_0.size' lo_b4
 obtain ⟨u0, ⟨u1, _⟩⟩ := hU
 have ne_b2_b4 : b2 ≠ b4 := fun e => u0 4 (by decide) (by rw [s2_1, s4_1, e])
 clear hE_0 hN_0 hD_0 s0_0 s1_0 hsx1_0
 refine tail_nil ?_
 refine wp_seq ?_
 refine wp_seq ?_
 refine region_lex [] [(9, Pr.ex (x1)), (10, Pr.ex (i64 ((s.length : Nat) : Int))), (11, Pr.ex (Value.bool (!decide (((s.length : Nat) : Int) = ((35 : Nat) : Int)))))] 3 hN_1 hD_1 (by kernel_rfl) (by kernel_rfl) ?_ ?_
 refine Asks.cons ?_ (Asks.cons ?_ (Asks.cons ?_ (Asks.zero _)))
 exact Ask.plain rfl rfl fun aq wq hNq hO hR hT => does_move (V := x1) ((hO 1 rfl).trans s1_1) ⟨Ext.refl _, rfl⟩
 exact Ask.plain rfl rfl fun aq wq hNq hO hR hT => does_len (T := DG) (xs := s) sli_55 (SlT.at (hT 9 rfl rfl) (hsx1_1.ext' hR)) ⟨Ext.refl _, rfl⟩
 exact Ask.plain rfl rfl fun aq wq hNq hO hR hT => does_neq (a := ((s.length : Nat) : Int)) (b := ((35 : Nat) : Int)) (hT 10 rfl rfl) rfl ⟨Ext.refl _, rfl⟩
 intro a2 wd2 hN_2 hD_2 hO hR hA hU
 obtain ⟨_, _, t11, _⟩ := hA
 have hE_2 := hE_1.trans hR
 have s1_2 := (hO 1 rfl).trans s1_1
 have s2_2 := (hO 2 rfl).trans s2_1
 have s4_2 := (hO 4 rfl).trans s4_1
 have hbb2_2 := hbb2_1.ext' hR
 have hbb4_2 := hbb4_1.ext' hR
 have hsx1_2 := hsx1_1.ext' hR
 have s11_2 : get a2 11 = Value.bool (!decide (((s.length : Nat) : Int) = ((35 : Nat) : Int))) := t11
 clear hE_1 hN_1 hD_1 s1_1 s2_1 s4_1 hbb2_1 hbb4_1 hsx1_1
 refine tail_nil ?_
 refine wp_if (B := !decide (((s.length : Nat) : Int) = ((35 : Nat) : Int))) s11_2 (fun hc0 => ?_) (fun hc0 => ?_)
 have hc0 := of_decide_eq_false (bn hc0)
 refine wp_seq ?_
 refine region_lex [] [(12, Pr.ex (Dg.val (Dg.zero)))] 1 hN_2 hD_2 (by kernel_rfl) (by kernel_rfl) ?_ ?_
 refine Asks.cons ?_ (Asks.zero _)
 exact Ask.plain rfl rfl fun aq wq hNq hO hR hT => does_build (vs := #[]) (V := Dg.val (Dg.zero)) parts0 (by kernel_rfl) ⟨Ext.refl _, rfl⟩
 intro a3 wd3 hN_3 hD_3 hO hR hA hU
 obtain ⟨t12, _⟩ := hA
 have hE_3 := hE_2.trans hR
 have s4_3 := (hO 4 rfl).trans s4_2
 have hbb2_3 := hbb2_2.ext' hR
 have hbb4_3 := hbb4_2.ext' hR
 have hsx1_3 := hsx1_2.ext' hR
 have s12_3 : get a3 12 = Dg.val (Dg.zero) := t12
 clear hE_2 hN_2 hD_2 s1_2 s2_2 s4_2 s11_2 hbb2_2 hbb4_2 hsx1_2
 refine tail_none rfl rfl (does_storeD (o := 0) (n := 4) (cs' := [w32 (Dg.zero).a, w32 (Dg.zero).b, w32 (Dg.zero).c, w32 (Dg.zero).d]) (V := Dg.val (Dg.zero)) s4_3 s12_3 hbb4_3 (Nat.le_of_ble_eq_true rfl) rfl siz_27 rfl rfl (fun wd4 hX hz hbb4_4 => ?_))
 have hE_4 := hE_3.since hX (fun k e => e ▸ fr_b4)
 have hbb2_4 := hbb2_3.ext hX ne_b2_b4
 have hsx1_4 := SlT.over hsx1_3 hX nb_x1_b4
 clear hX hz hE_3 hbb2_3 hbb4_3 hsx1_3
 refine tail_put rfl rfl hN_3 hD_3 (by decide) (does_assign (V := Value.bool (false)) rfl (fun a5 hN_5 hD_5 hv hO => ?_))
 have s5_5 := hv
 have s4_5 := (hO 4 rfl).trans s4_3
 clear hO hv hN_3 hD_3 s4_3 s12_3
 refine tail_nil ?_
 refine wp_ret ?_
 refine res_two (V1 := Dg.val (Dg.zero)) (V2 := Value.bool (false)) rfl hD_5 (ResIs.cell s4_5 hbb4_4 row_27 rfl rfl) s5_5 ?_
 obtain ⟨e1, e2⟩ := prod2is (reachO_no (m := m) (s := s) (by omega))
 exact ⟨by show Value.tuple _ = Value.tuple _; rw [e1, e2], hE_4⟩
 have hc0 := of_decide_eq_true (bn' hc0)
 have hs : s.length = 35 := by omega
 refine wp_skip ?_
 refine wp_seq ?_
 refine region_lex [] [(13, Pr.ex (Dg.val (m))), (14, Pr.own' NI wd2.heap.size 3 (steps m)), (6, Pr.own' NI wd2.heap.size 3 (steps m))] 3 hN_2 hD_2 (by kernel_rfl) (by kernel_rfl) ?_ ?_
 refine Asks.cons ?_ (Asks.cons ?_ (Asks.cons ?_ (Asks.zero _)))
 exact Ask.plain rfl rfl fun aq wq hNq hO hR hT => does_loadD (o := 0) (n := 4) (mid := [w32 (m).a, w32 (m).b, w32 (m).c, w32 (m).d]) ((hO 2 rfl).trans s2_2) (hbb2_2.ext' hR) rfl rfl (Nat.le_of_ble_eq_true rfl) row_27 rfl ⟨Ext.refl _, rfl⟩
 exact Ask.plain rfl rfl fun aq wq hNq hO hR hT => does_ret (vs := #[Dg.val (m)]) call_96 (args1 (hT 13 rfl rfl)) rfl ((stepsR m wq).mono fun v w2 h => ⟨h.2, OwnT.base h.1 hR.size'⟩)
 exact Ask.plain rfl rfl fun aq wq hNq hO hR hT => does_assign rfl ⟨Ext.refl _, (hT 14 rfl rfl)⟩
 intro a6 wd6 hN_6 hD_6 hO hR hA hU
 obtain ⟨_, _, t6, _⟩ := hA
 have hE_6 := hE_2.trans hR
 have s1_6 := (hO 1 rfl).trans s1_2
 have s4_6 := (hO 4 rfl).trans s4_2
 have hbb2_6 := hbb2_2.ext' hR
 have hbb4_6 := hbb4_2.ext' hR
 have hsx1_6 := hsx1_2.ext' hR
 obtain ⟨x6, s6_6⟩ : ∃ x, get a6 6 = x := ⟨_, rfl⟩
 replace t6 : OwnT NI wd2.heap.size 3 (steps m) x6 wd6 := by rw [← s6_6]; exact t6
 have nbo_x6_b2 : x6.ownBlock ≠ some b2 := fun e => Nat.lt_irrefl _ (Nat.lt_of_lt_of_le hbb2_2.lt (OwnT.block_lt t6 e).1)
 have nbo_x6_b4 : x6.ownBlock ≠ some b4 := fun e => Nat.lt_irrefl _ (Nat.lt_of_lt_of_le hbb4_2.lt (OwnT.block_lt t6 e).1)
 have hsx6_6 := t6.sl.wide (Nat.zero_le _) (.inl rfl)
 have hox6_6 := OwnT.base t6 hE_2.size'
 clear hE_2 hN_2 hD_2 s1_2 s2_2 s4_2 s11_2 hbb2_2 hbb4_2 hsx1_2
 refine tail_nil ?_
 refine wp_seq ?_
 refine region_lex [] [(7, Pr.ex (Value.slice none 0 0))] 1 hN_6 hD_6 (by kernel_rfl) (by kernel_rfl) ?_ ?_
 refine Asks.cons ?_ (Asks.zero _)
 exact Ask.plain rfl rfl fun aq wq hNq hO hR hT => does_assign (V := Value.slice none 0 0) rfl ⟨Ext.refl _, rfl⟩
 intro a7 wd7 hN_7 hD_7 hO hR hA hU
 obtain ⟨t7, _⟩ := hA
 have hE_7 := hE_6.trans hR
 have s1_7 := (hO 1 rfl).trans s1_6
 have s4_7 := (hO 4 rfl).trans s4_6
 have s6_7 := (hO 6 rfl).trans s6_6
 have hbb2_7 := hbb2_6.ext' hR
 have hbb4_7 := hbb4_6.ext' hR
 have hsx1_7 := hsx1_6.ext' hR
 have hsx6_7 := hsx6_6.ext' hR
 have hox6_7 := hox6_6.ext' hR
 have s7_7 : get a7 7 = Value.slice none 0 0 := t7
 clear hE_6 hN_6 hD_6 s1_6 s4_6 s6_6 hbb2_6 hbb4_6 hsx1_6 hsx6_6 hox6_6
 refine tail_nil ?_
 refine wp_seq ?_
 refine wp_seq ?_
 refine region_lex [] [(8, Pr.ex (i64 ((0 : Nat) : Int)))] 1 hN_7 hD_7 (by kernel_rfl) (by kernel_rfl) ?_ ?_
 refine Asks.cons ?_ (Asks.zero _)
 exact Ask.plain rfl rfl fun aq wq hNq hO hR hT => does_assign (V := i64 ((0 : Nat) : Int)) rfl ⟨Ext.refl _, rfl⟩
 intro a8 wd8 hN_8 hD_8 hO hR hA hU
 obtain ⟨t8, _⟩ := hA
 have hE_8 := hE_7.trans hR
 have s1_8 := (hO 1 rfl).trans s1_7
 have s4_8 := (hO 4 rfl).trans s4_7
 have s6_8 := (hO 6 rfl).trans s6_7
 have s7_8 := (hO 7 rfl).trans s7_7
 have hbb2_8 := hbb2_7.ext' hR
 have hbb4_8 := hbb4_7.ext' hR
 have hsx1_8 := hsx1_7.ext' hR
 have hsx6_8 := hsx6_7.ext' hR
 have hox6_8 := hox6_7.ext' hR
 have s8_8 : get a8 8 = i64 ((0 : Nat) : Int) := t8
 clear hE_7 hN_7 hD_7 s1_7 s4_7 s6_7 s7_7 hbb2_7 hbb4_7 hsx1_7 hsx6_7 hox6_7
 refine tail_nil ?_
 refine wp_block ?_
 refine loop_g (fun mz az wz => ∃ k : Nat, ∃ xo : Value, mz = 35 - k ∧ (az.tmps.size = 34) ∧ (az.defers = []) ∧ (get az 1 = x1) ∧ (get az 4 = Value.pointer (some ⟨b4, 0, none⟩)) ∧ (get az 6 = x6) ∧ (get az 7 = xo) ∧ (get az 8 = i64 ((k : Nat) : Int)) ∧ (Ext w0 wz) ∧ (Has wz b2 27 [w32 (m).a, w32 (m).b, w32 (m).c, w32 (m).d]) ∧ (Has wz b4 27 [w32 (Dg.zero).a, w32 (Dg.zero).b, w32 (Dg.zero).c, w32 (Dg.zero).d]) ∧ (SlT DG 0 (w0.heap.size + 1) (s) x1 wz) ∧ (SlT NI 0 0 (steps m) x6 wz) ∧ (OwnT DG w0.heap.size 27 ((List.range k).map (chain m s)) xo wz) ∧ (xo.ownBlock ≠ some b2) ∧ (xo.ownBlock ≠ some b4) ∧ (OwnT NI w0.heap.size 3 (steps m) x6 wz) ∧ (x6.ownBlock ≠ some b2) ∧ (x6.ownBlock ≠ some b4) ∧ (k ≤ 35)) ?_ ?_
 exact ⟨_, 0, (Value.slice none 0 0), rfl, hN_8, hD_8, s1_8, s4_8, s6_8, s7_8, s8_8, hE_8, hbb2_8, hbb4_8, hsx1_8, hsx6_8, (OwnT.nil DG w0.heap.size 27 _), (by intro e; cases e), (by intro e; cases e), hox6_8, nbo_x6_b2, nbo_x6_b4, by decide⟩
 rintro mz a9 wd9 ⟨k, xo, rfl, hN_9, hD_9, s1_9, s4_9, s6_9, s7_9, s8_9, hE_9, hbb2_9, hbb4_9, hsx1_9, hsx6_9, hoxo_9, nbo_xo_b2, nbo_xo_b4, hox6_9, nbo_x6_b2, nbo_x6_b4, hk⟩
 have hsxo_9 := hoxo_9.sl.wide (Nat.zero_le _) (.inl rfl)
 have hsx6_9 := hox6_9.sl.wide (Nat.zero_le _) (.inl rfl)
 refine wp_seq ?_
 refine wp_seq ?_
 refine region_lex [] [(15, Pr.ex (i64 ((k : Nat) : Int))), (16, Pr.ex (Value.bool (decide (((k : Nat) : Int) < ((35 : Nat) : Int)))))] 2 hN_9 hD_9 (by kernel_rfl) (by kernel_rfl) ?_ ?_
 refine Asks.cons ?_ (Asks.cons ?_ (Asks.zero _))
 exact Ask.plain rfl rfl fun aq wq hNq hO hR hT => does_move (V := i64 ((k : Nat) : Int)) ((hO 8 rfl).trans s8_9) ⟨Ext.refl _, rfl⟩
 exact Ask.plain rfl rfl fun aq wq hNq hO hR hT => does_lss (a := ((k : Nat) : Int)) (b := ((35 : Nat) : Int)) (hT 15 rfl rfl) rfl ⟨Ext.refl _, rfl⟩
 intro a10 wd10 hN_10 hD_10 hO hR hA hU
 obtain ⟨_, t16, _⟩ := hA
 have hE_10 := hE_9.trans hR
 have s1_10 := (hO 1 rfl).trans s1_9
 have s4_10 := (hO 4 rfl).trans s4_9
 have s6_10 := (hO 6 rfl).trans s6_9
 have s7_10 := (hO 7 rfl).trans s7_9
 have s8_10 := (hO 8 rfl).trans s8_9
 have hbb2_10 := hbb2_9.ext' hR
 have hbb4_10 := hbb4_9.ext' hR
 have hsx1_10 := hsx1_9.ext' hR
 have hsx6_10 := hsx6_9.ext' hR
 have hsxo_10 := hsxo_9.ext' hR
 have hoxo_10 := hoxo_9.ext' hR
 have hox6_10 := hox6_9.ext' hR
 have s16_10 : get a10 16 = Value.bool (decide (((k : Nat) : Int) < ((35 : Nat) : Int))) := t16
 clear hE_9 hN_9 hD_9 s1_9 s4_9 s6_9 s7_9 s8_9 hbb2_9 hbb4_9 hsx1_9 hsx6_9 hsxo_9 hoxo_9 hox6_9
 refine tail_nil ?_
 refine wp_if (B := decide (((k : Nat) : Int) < ((35 : Nat) : Int))) s16_10 (fun hc1 => ?_) (fun hc1 => ?_)
 have hc1 := of_decide_eq_true hc1
 have hk35 : k < 35 := by omega
 have hle := steps_le m k
 refine wp_skip ?_
 refine wp_seq ?_
 refine wp_block ?_
 refine region_any [] [(19, Pr.ex (xo)), (20, Pr.ex (x1)), (21, Pr.ex (i64 ((k : Nat) : Int))), (22, Pr.pt' 0 (w0.heap.size + 1) [w32 ((s.getD k Dg.zero)).a, w32 ((s.getD k Dg.zero)).b, w32 ((s.getD k Dg.zero)).c, w32 ((s.getD k Dg.zero)).d]), (23, Pr.ex (Dg.val ((s.getD k Dg.zero)))), (24, Pr.ex (x6)), (25, Pr.ex (i64 ((k : Nat) : Int))), (26, Pr.pt' 0 0 [i64 (((steps m).getD k 0 : Nat) : Int)]), (27, Pr.ex (i64 (((steps m).getD k 0 : Nat) : Int))), (28, Pr.ex (i64 ((15 - ((steps m).getD k 0) : Nat) : Int))), (29, Pr.ex (Dg.val (walk ((s.getD k Dg.zero)) (15 - ((steps m).getD k 0))))), (30, Pr.own' DG wd10.heap.size 27 ([walk ((s.getD k Dg.zero)) (15 - ((steps m).getD k 0))]))] 12 mixed hN_10 hD_10 (by kernel_rfl) (by kernel_rfl) (by kernel_rfl) ?_ ?_
 refine Asks.cons ?_ (Asks.cons ?_ (Asks.cons ?_ (Asks.cons ?_ (Asks.cons ?_ (Asks.cons ?_ (Asks.cons ?_ (Asks.cons ?_ (Asks.cons ?_ (Asks.cons ?_ (Asks.cons ?_ (Asks.cons ?_ (Asks.zero _))))))))))))
 exact Ask.plainD rfl rfl fun aq wq hNq hO hR hT => does_move (V := xo) ((hO 7 rfl).trans s7_10) ⟨Ext.refl _, rfl⟩
 exact Ask.plainD rfl rfl fun aq wq hNq hO hR hT => does_move (V := x1) ((hO 1 rfl).trans s1_10) ⟨Ext.refl _, rfl⟩
 exact Ask.plainD rfl rfl fun aq wq hNq hO hR hT => does_move (V := i64 ((k : Nat) : Int)) ((hO 8 rfl).trans s8_10) ⟨Ext.refl _, rfl⟩
 exact Ask.plainD rfl rfl fun aq wq hNq hO hR hT => does_indexSl (T := DG) (xs := s) (i := ((k : Nat) : Int)) (X := (s.getD k Dg.zero)) sli_55 rfl (SlT.at (hT 20 rfl rfl) (hsx1_10.ext' hR)) (hT 21 rfl rfl) (by omega) (getD_get (by omega)) (fun v h => ⟨Ext.refl _, h⟩)
 exact Ask.plainD rfl rfl fun aq wq hNq hO hR hT => does_loadP (cs := [w32 ((s.getD k Dg.zero)).a, w32 ((s.getD k Dg.zero)).b, w32 ((s.getD k Dg.zero)).c, w32 ((s.getD k Dg.zero)).d]) (hT 22 rfl rfl) row_27 rfl ⟨Ext.refl _, rfl⟩
 exact Ask.plainD rfl rfl fun aq wq hNq hO hR hT => does_move (V := x6) ((hO 6 rfl).trans s6_10) ⟨Ext.refl _, rfl⟩
 exact Ask.plainD rfl rfl fun aq wq hNq hO hR hT => does_move (V := i64 ((k : Nat) : Int)) ((hO 8 rfl).trans s8_10) ⟨Ext.refl _, rfl⟩
 exact Ask.plainD rfl rfl fun aq wq hNq hO hR hT => does_indexSl (T := NI) (xs := steps m) (i := ((k : Nat) : Int)) (X := (steps m).getD k 0) sli_137 rfl (SlT.at (hT 24 rfl rfl) (hsx6_10.ext' hR)) (hT 25 rfl rfl) (by omega) (steps_get m hk35) (fun v h => ⟨Ext.refl _, h⟩)
 exact Ask.plainD rfl rfl fun aq wq hNq hO hR hT => does_loadP1 (V := i64 (((steps m).getD k 0 : Nat) : Int)) (hT 26 rfl rfl) one_3 ⟨Ext.refl _, rfl⟩
 exact Ask.plainD rfl rfl fun aq wq hNq hO hR hT => does_sub (a := ((15 : Nat) : Int)) (b := (((steps m).getD k 0 : Nat) : Int)) (r := ((15 - ((steps m).getD k 0) : Nat) : Int)) rfl (hT 27 rfl rfl) (by omega) (by omega) (by omega) ⟨Ext.refl _, rfl⟩
 exact Ask.plainD rfl rfl fun aq wq hNq hO hR hT => does_ret (vs := #[Dg.val ((s.getD k Dg.zero)), i64 ((15 - ((steps m).getD k 0) : Nat) : Int)]) call_97 (args2 (hT 23 rfl rfl) (hT 28 rfl rfl)) rfl ((walkR ((s.getD k Dg.zero)) (15 - ((steps m).getD k 0)) wq (by omega)).mono fun v w2 h => ⟨h.2, h.1⟩)
 exact Ask.plainD rfl rfl fun aq wq hNq hO hR hT => does_slice1 (T := DG) (X := walk ((s.getD k Dg.zero)) (15 - ((steps m).getD k 0))) (V := Dg.val (walk ((s.getD k Dg.zero)) (15 - ((steps m).getD k 0)))) app_41 rfl (by decide) (hT 29 rfl rfl) rfl (fun v w2 he _ ho => ⟨he, OwnT.base ho hR.size'⟩)
 intro a11 wd11 hN_11 hD_11 hO hR hA hU
 obtain ⟨t19, _, _, _, _, _, _, _, _, _, _, t30, _⟩ := hA
 have hE_11 := hE_10.trans hR
 have s1_11 := (hO 1 rfl).trans s1_10
 have s4_11 := (hO 4 rfl).trans s4_10
 have s6_11 := (hO 6 rfl).trans s6_10
 have s7_11 := (hO 7 rfl).trans s7_10
 have s8_11 := (hO 8 rfl).trans s8_10
 have hbb2_11 := hbb2_10.ext' hR
 have hbb4_11 := hbb4_10.ext' hR
 have hsx1_11 := hsx1_10.ext' hR
 have hsx6_11 := hsx6_10.ext' hR
 have hsxo_11 := hsxo_10.ext' hR
 have hoxo_11 := hoxo_10.ext' hR
 have hox6_11 := hox6_10.ext' hR
 have s19_11 : get a11 19 = xo := t19
 obtain ⟨x30, s30_11⟩ : ∃ x, get a11 30 = x := ⟨_, rfl⟩
 replace t30 : OwnT DG wd10.heap.size 27 ([walk ((s.getD k Dg.zero)) (15 - ((steps m).getD k 0))]) x30 wd11 := by rw [← s30_11]; exact t30
 have nbo_x30_b2 : x30.ownBlock ≠ some b2 := fun e => Nat.lt_irrefl _ (Nat.lt_of_lt_of_le hbb2_10.lt (OwnT.block_lt t30 e).1)
 have nbo_x30_b4 : x30.ownBlock ≠ some b4 := fun e => Nat.lt_irrefl _ (Nat.lt_of_lt_of_le hbb4_10.lt (OwnT.block_lt t30 e).1)
 have no_x30_xo : ∀ k, x30.ownBlock = some k → xo.ownBlock ≠ some k := fun k e e' => Nat.lt_irrefl _ (Nat.lt_of_lt_of_le (OwnT.block_lt hoxo_10 e').2 (OwnT.block_lt t30 e).1)
 have no_x30_x6 : ∀ k, x30.ownBlock = some k → x6.ownBlock ≠ some k := fun k e e' => Nat.lt_irrefl _ (Nat.lt_of_lt_of_le (OwnT.block_lt hox6_10 e').2 (OwnT.block_lt t30 e).1)
 have hsx30_11 := t30.sl.wide (Nat.zero_le _) (.inl rfl)
 have hox30_11 := OwnT.base t30 hE_10.size'
 clear hE_10 hN_10 hD_10 s1_10 s4_10 s6_10 s7_10 s8_10 s16_10 hbb2_10 hbb4_10 hsx1_10 hsx6_10 hsxo_10 hoxo_10 hox6_10
 refine tail_put rfl rfl hN_11 hD_11 (by decide) (does_append (T := DG) (base := w0.heap.size) (xs := (List.range k).map (chain m s)) (ys := [walk ((s.getD k Dg.zero)) (15 - ((steps m).getD k 0))]) (v := xo) app_41 s19_11 hoxo_11 (SlT.at s30_11 hsx30_11) (by simp) (by simp only [List.length_map, List.length_range, List.length_cons, List.length_nil]; omega) (by simp only [List.length_map, List.length_range, List.length_cons, List.length_nil]; omega) hE_11.size' (fun x31 wd12 hX hox31_12 hk a12 hN_12 hD_12 hv hO => ?_))
 have hE_12 := hE_11.since hX (fun b hb => Nat.le_trans (Nat.le_refl _) (OwnT.block_lt hoxo_11 hb).1)
 have hbb2_12 := hbb2_11.ext hX nbo_xo_b2
 have nbo_x31_b2 : x31.ownBlock ≠ some b2 := fun e => (hk _ e).elim nbo_xo_b2 (fun h => Nat.lt_irrefl _ (Nat.lt_of_lt_of_le hbb2_11.lt h))
 have hbb4_12 := hbb4_11.ext hX nbo_xo_b4
 have nbo_x31_b4 : x31.ownBlock ≠ some b4 := fun e => (hk _ e).elim nbo_xo_b4 (fun h => Nat.lt_irrefl _ (Nat.lt_of_lt_of_le hbb4_11.lt h))
 have hsx1_12 := SlT.overOwn hsx1_11 hoxo_11 hX
 have no_xo_x6 := OwnT.apart hoxo_11 hox6_11 (by decide)
 have hox6_12 := OwnT.ext hox6_11 hX (fun k hk e => no_xo_x6 k e hk)
 have no_x31_x6 : ∀ k, x31.ownBlock = some k → x6.ownBlock ≠ some k := fun k e e' => (hk k e).elim (fun h => no_xo_x6 k h e') (fun h => Nat.lt_irrefl _ (Nat.lt_of_lt_of_le (OwnT.block_lt hox6_11 e').2 h))
 have hsx6_12 := hox6_12.sl.wide (Nat.zero_le _) (.inl rfl)
 have hox30_12 := OwnT.ext hox30_11 hX (fun k hk e => no_x30_xo k hk e)
 have no_x31_x30 : ∀ k, x31.ownBlock = some k → x30.ownBlock ≠ some k := fun k e e' => (hk k e).elim (fun h => no_x30_xo k e' h) (fun h => Nat.lt_irrefl _ (Nat.lt_of_lt_of_le (OwnT.block_lt hox30_11 e').2 h))
 have hsx30_12 := hox30_12.sl.wide (Nat.zero_le _) (.inl rfl)
 have hsx31_12 := hox31_12.sl.wide (Nat.zero_le _) (.inl rfl)
 rw [(show (List.range k).map (chain m s) ++ [walk (s.getD k Dg.zero) (15 - (steps m).getD k 0)] = (List.range (k + 1)).map (chain m s) from range_step rfl)] at hox31_12 hsx31_12
 have s31_12 := hv
 have s1_12 := (hO 1 rfl).trans s1_11
 have s4_12 := (hO 4 rfl).trans s4_11
 have s6_12 := (hO 6 rfl).trans s6_11
 have s7_12 := (hO 7 rfl).trans s7_11
 have s8_12 := (hO 8 rfl).trans s8_11
 clear hO hv hX hk hN_11 hD_11 hE_11 hbb2_11 hbb4_11 hsx1_11 hox6_11 hox30_11 s1_11 s4_11 s6_11 s7_11 s8_11 s19_11 s30_11
 refine tail_put rfl rfl hN_12 hD_12 (by decide) (does_assign (V := x31) s31_12 (fun a13 hN_13 hD_13 hv hO => ?_))
 have s7_13 := hv
 have s1_13 := (hO 1 rfl).trans s1_12
 have s4_13 := (hO 4 rfl).trans s4_12
 have s6_13 := (hO 6 rfl).trans s6_12
 have s8_13 := (hO 8 rfl).trans s8_12
 clear hO hv hN_12 hD_12 s1_12 s4_12 s6_12 s8_12 s31_12 s7_12
 refine tail_nil ?_
 refine region_lex [] [(17, Pr.ex (i64 ((k : Nat) : Int))), (18, Pr.ex (i64 ((k + 1 : Nat) : Int)))] 2 hN_13 hD_13 (by kernel_rfl) (by kernel_rfl) ?_ ?_
 refine Asks.cons ?_ (Asks.cons ?_ (Asks.zero _))
 exact Ask.plain rfl rfl fun aq wq hNq hO hR hT => does_move (V := i64 ((k : Nat) : Int)) ((hO 8 rfl).trans s8_13) ⟨Ext.refl _, rfl⟩
 exact Ask.plain rfl rfl fun aq wq hNq hO hR hT => does_add (a := ((k : Nat) : Int)) (b := ((1 : Nat) : Int)) (r := ((k + 1 : Nat) : Int)) (hT 17 rfl rfl) rfl (by omega) (by omega) (by omega) ⟨Ext.refl _, rfl⟩
 intro a14 wd14 hN_14 hD_14 hO hR hA hU
 obtain ⟨_, t18, _⟩ := hA
 have hE_14 := hE_12.trans hR
 have s1_14 := (hO 1 rfl).trans s1_13
 have s4_14 := (hO 4 rfl).trans s4_13
 have s6_14 := (hO 6 rfl).trans s6_13
 have s7_14 := (hO 7 rfl).trans s7_13
 have s8_14 := (hO 8 rfl).trans s8_13
 have hbb2_14 := hbb2_12.ext' hR
 have hbb4_14 := hbb4_12.ext' hR
 have hsx1_14 := hsx1_12.ext' hR
 have hsx6_14 := hsx6_12.ext' hR
 have hsx30_14 := hsx30_12.ext' hR
 have hsx31_14 := hsx31_12.ext' hR
 have hox6_14 := hox6_12.ext' hR
 have hox30_14 := hox30_12.ext' hR
 have hox31_14 := hox31_12.ext' hR
 have s18_14 : get a14 18 = i64 ((k + 1 : Nat) : Int) := t18
 clear hE_12 hN_13 hD_13 s1_13 s4_13 s6_13 s7_13 s8_13 hbb2_12 hbb4_12 hsx1_12 hsx6_12 hsx30_12 hsx31_12 hox6_12 hox30_12 hox31_12
 refine tail_put rfl rfl hN_14 hD_14 (by decide) (does_assign (V := i64 ((k + 1 : Nat) : Int)) s18_14 (fun a15 hN_15 hD_15 hv hO => ?_))
 have s8_15 := hv
 have s1_15 := (hO 1 rfl).trans s1_14
 have s4_15 := (hO 4 rfl).trans s4_14
 have s6_15 := (hO 6 rfl).trans s6_14
 have s7_15 := (hO 7 rfl).trans s7_14
 clear hO hv hN_14 hD_14 s1_14 s4_14 s6_14 s7_14 s18_14 s8_14
 refine tail_nil ?_
 exact ⟨_, by omega, k + 1, x31, rfl, hN_15, hD_15, s1_15, s4_15, s6_15, s7_15, s8_15, hE_14, hbb2_14, hbb4_14, hsx1_14, hsx6_14, hox31_14, nbo_x31_b2, nbo_x31_b4, hox6_14, nbo_x6_b2, nbo_x6_b4, by omega⟩
 have hc1 := of_decide_eq_false hc1
 have hk35 : k = 35 := by omega
 refine wp_exit ?_
 refine wp_seq ?_
 refine region_lex [] [(32, Pr.ex (xo)), (33, Pr.ex (Dg.val (tied ⟨35, 0, 0, 0⟩ ((List.range k).map (chain m s)))))] 2 hN_10 hD_10 (by kernel_rfl) (by kernel_rfl) ?_ ?_
 refine Asks.cons ?_ (Asks.cons ?_ (Asks.zero _))
 exact Ask.plain rfl rfl fun aq wq hNq hO hR hT => does_move (V := xo) ((hO 7 rfl).trans s7_10) ⟨Ext.refl _, rfl⟩
 exact Ask.plain rfl rfl fun aq wq hNq hO hR hT => does_ret (vs := #[xo]) call_98 (args1 (hT 32 rfl rfl)) rfl ((ofEnds ((List.range k).map (chain m s)) (xo) wq ((hsxo_10.ext' hR).wide (Nat.zero_le _) (.inl rfl)) (by simp only [List.length_map, List.length_range, List.length_cons, List.length_nil]; omega)).mono fun v w2 h => ⟨h.2, h.1⟩)
 intro a16 wd16 hN_16 hD_16 hO hR hA hU
 obtain ⟨_, t33, _⟩ := hA
 have hE_16 := hE_10.trans hR
 have s4_16 := (hO 4 rfl).trans s4_10
 have hbb2_16 := hbb2_10.ext' hR
 have hbb4_16 := hbb4_10.ext' hR
 have hsx1_16 := hsx1_10.ext' hR
 have hsx6_16 := hsx6_10.ext' hR
 have hsxo_16 := hsxo_10.ext' hR
 have hoxo_16 := hoxo_10.ext' hR
 have hox6_16 := hox6_10.ext' hR
 have s33_16 : get a16 33 = Dg.val (tied ⟨35, 0, 0, 0⟩ ((List.range k).map (chain m s))) := t33
 clear hE_10 hN_10 hD_10 s1_10 s4_10 s6_10 s7_10 s8_10 s16_10 hbb2_10 hbb4_10 hsx1_10 hsx6_10 hsxo_10 hoxo_10 hox6_10
 refine tail_none rfl rfl (does_storeD (o := 0) (n := 4) (cs' := [w32 (tied ⟨35, 0, 0, 0⟩ ((List.range k).map (chain m s))).a, w32 (tied ⟨35, 0, 0, 0⟩ ((List.range k).map (chain m s))).b, w32 (tied ⟨35, 0, 0, 0⟩ ((List.range k).map (chain m s))).c, w32 (tied ⟨35, 0, 0, 0⟩ ((List.range k).map (chain m s))).d]) (V := Dg.val (tied ⟨35, 0, 0, 0⟩ ((List.range k).map (chain m s)))) s4_16 s33_16 hbb4_16 (Nat.le_of_ble_eq_true rfl) rfl siz_27 rfl rfl (fun wd17 hX hz hbb4_17 => ?_))
 have hE_17 := hE_16.since hX (fun k e => e ▸ fr_b4)
 have hbb2_17 := hbb2_16.ext hX ne_b2_b4
 have hsx1_17 := SlT.over hsx1_16 hX nb_x1_b4
 have hsx6_17 := SlT.over hsx6_16 hX (fun _ => nbo_x6_b4)
 have hsxo_17 := SlT.over hsxo_16 hX (fun _ => nbo_xo_b4)
 have hoxo_17 := OwnT.ext hoxo_16 hX (fun k hk e => nbo_xo_b4 (e ▸ hk))
 have hox6_17 := OwnT.ext hox6_16 hX (fun k hk e => nbo_x6_b4 (e ▸ hk))
 clear hX hz hE_16 hbb2_16 hbb4_16 hsx1_16 hsx6_16 hsxo_16 hoxo_16 hox6_16
 refine tail_put rfl rfl hN_16 hD_16 (by decide) (does_assign (V := Value.bool (true)) rfl (fun a18 hN_18 hD_18 hv hO => ?_))
 have s5_18 := hv
 have s4_18 := (hO 4 rfl).trans s4_16
 clear hO hv hN_16 hD_16 s4_16 s33_16
 refine tail_nil ?_
 refine wp_ret ?_
 refine res_two (V1 := Dg.val (tied ⟨35, 0, 0, 0⟩ ((List.range k).map (chain m s)))) (V2 := Value.bool (true)) rfl hD_18 (ResIs.cell s4_18 hbb4_17 row_27 rfl rfl) s5_18 ?_
 obtain ⟨e1, e2⟩ := prod2is (reachO_yes (m := m) (s := s) hs)
 exact ⟨by show Value.tuple _ = Value.tuple _; rw [e1, e2, reach_eq, hk35], hE_17⟩

end Go.Proofs.YtijfjpbahepegaaDoor
