/- The walks of functions of the program: printed. -/
import Derived.Test.YtaeohnkfmachfabDoorK
import Derived.Test.YtaeohnkfmachfabDoorG60
import Derived.Test.YtaeohnkfmachfabDoorG61
import Derived.Test.YtaeohnkfmachfabDoorF0
set_option maxRecDepth 100000
namespace Go.Proofs.YtaeohnkfmachfabDoor
open Go Go.RowKit Sk Sd
theorem ahead_ (m : Dg) (s : List Dg) (o : Dg) (t : List Dg) (x1 x2 : Value) (w0 : World) (hL : Laid w0) (hx1 : SlT DG 0 0 s x1 w0) (hx2 : SlT DG 0 0 t x2 w0) (hs : s.length = 35) (ht : t.length = 35) :
    Gives Tryd.prog 17 #[Dg.val (m), x1, Dg.val (o), x2] w0 (Pr.ex (Value.tuple #[i64 (((aheadO m s o t).1 : Nat) : Int), Dg.val (aheadO m s o t).2.1, Value.bool (aheadO m s o t).2.2])) := by
 refine enter (N := 67) Tryd.func17 rfl rfl ?_
 intro a0 hN_0 hD_0 hA
 have s0_0 : get a0 0 = Dg.val (m) := hA 0 _ rfl
 have s1_0 : get a0 1 = x1 := hA 1 _ rfl
 have s2_0 : get a0 2 = Dg.val (o) := hA 2 _ rfl
 have s3_0 : get a0 3 = x2 := hA 3 _ rfl
 clear hA
 have hE_0 : Ext w0 w0 := Ext.refl w0
 have hsx1_0 := hx1.close
 have hsx2_0 := hx2.close
 refine wp_seq ?_
 refine region_lex [4, 6, 9] [(4, Pr.box' w0.heap.size 24 [w32 (m).a, w32 (m).b, w32 (m).c, w32 (m).d]), (6, Pr.box' w0.heap.size 24 [w32 (o).a, w32 (o).b, w32 (o).c, w32 (o).d]), (8, Pr.ex (i64 ((0 : Nat) : Int))), (9, Pr.box' w0.heap.size 24 [w32 (Dg.zero).a, w32 (Dg.zero).b, w32 (Dg.zero).c, w32 (Dg.zero).d]), (10, Pr.ex (Value.bool (false)))] 5 hN_0 hD_0 (by kernel_rfl) (by kernel_rfl) ?_ ?_
 refine Asks.cons ?_ (Asks.cons ?_ (Asks.cons ?_ (Asks.cons ?_ (Asks.cons ?_ (Asks.zero _)))))
 refine Ask.fresh rfl rfl ?_
 intro aq wq hNq hO hR hT
 exact does_box (V := Dg.val (m)) ((hO 0 rfl).trans s0_0) (fun b w2 he hlo hb => ⟨he, ⟨b, rfl, Nat.le_trans hR.size' hlo, hb⟩, ⟨b, rfl, hlo, hb.lt⟩⟩)
 refine Ask.fresh rfl rfl ?_
 intro aq wq hNq hO hR hT
 exact does_box (V := Dg.val (o)) ((hO 2 rfl).trans s2_0) (fun b w2 he hlo hb => ⟨he, ⟨b, rfl, Nat.le_trans hR.size' hlo, hb⟩, ⟨b, rfl, hlo, hb.lt⟩⟩)
 exact Ask.plain rfl rfl fun aq wq hNq hO hR hT => does_assign (V := i64 ((0 : Nat) : Int)) rfl ⟨Ext.refl _, rfl⟩
 refine Ask.fresh rfl rfl ?_
 intro aq wq hNq hO hR hT
 exact does_alloc zero_24 (fun b w2 he hlo hb => ⟨he, ⟨b, rfl, Nat.le_trans hR.size' hlo, hb⟩, ⟨b, rfl, hlo, hb.lt⟩⟩)
 exact Ask.plain rfl rfl fun aq wq hNq hO hR hT => does_assign (V := Value.bool (false)) rfl ⟨Ext.refl _, rfl⟩
 intro a1 wd1 hN_1 hD_1 hO hR hA hU
 obtain ⟨t4, t6, _, t9, _, _⟩ := hA
 have hE_1 := hE_0.trans hR
 have s1_1 := (hO 1 rfl).trans s1_0
 have s3_1 := (hO 3 rfl).trans s3_0
 have hsx1_1 := hsx1_0.ext' hR
 have hsx2_1 := hsx2_0.ext' hR
 obtain ⟨b4, s4_1, lo_b4, hbb4_1⟩ := t4
 have nb_x1_b4 := SlT.old hsx1_0 lo_b4
 have nb_x2_b4 := SlT.old hsx2_0 lo_b4
 have fr_b4 : w0.heap.size ≤ b4 := Nat.le_trans hE_0.size' lo_b4
 obtain ⟨b6, s6_1, lo_b6, hbb6_1⟩ := t6
 have nb_x1_b6 := SlT.old hsx1_0 lo_b6
 have nb_x2_b6 := SlT.old hsx2_0 lo_b6
 have fr_b6 : w0.heap.size ≤ b6 := Nat.le_trans hE_0.size' lo_b6
 obtain ⟨b9, s9_1, lo_b9, hbb9_1⟩ := t9
 have nb_x1_b9 := SlT.old hsx1_0 lo_b9
 have nb_x2_b9 := SlT.old hsx2_0 lo_b9
 have fr_b9 : w0.heap.size ≤ b9 := Nat.le_trans hE_0.size' lo_b9
 obtain ⟨u0, ⟨u1, ⟨u2, _⟩⟩⟩ := hU
 have ne_b4_b6 : b4 ≠ b6 := fun e => u0 6 (by decide) (by rw [s4_1, s6_1, e])
 have ne_b4_b9 : b4 ≠ b9 := fun e => u0 9 (by decide) (by rw [s4_1, s9_1, e])
 have ne_b6_b9 : b6 ≠ b9 := fun e => u1 9 (by decide) (by rw [s6_1, s9_1, e])
 clear hE_0 hN_0 hD_0 s0_0 s1_0 s2_0 s3_0 hsx1_0 hsx2_0
 refine tail_nil ?_
 refine wp_seq ?_
 refine wp_seq ?_
 refine region_lex [] [(14, Pr.ex (x1)), (15, Pr.ex (i64 ((s.length : Nat) : Int))), (16, Pr.ex (Value.bool (!decide (((s.length : Nat) : Int) = ((35 : Nat) : Int))))), (17, Pr.ex (Value.bool (!decide (((s.length : Nat) : Int) = ((35 : Nat) : Int))))), (18, Pr.ifb (!(!decide (((s.length : Nat) : Int) = ((35 : Nat) : Int)))) (Pr.ex (x2))), (19, Pr.ifb (!(!decide (((s.length : Nat) : Int) = ((35 : Nat) : Int)))) (Pr.ex (i64 ((t.length : Nat) : Int)))), (20, Pr.ifb (!(!decide (((s.length : Nat) : Int) = ((35 : Nat) : Int)))) (Pr.ex (Value.bool (!decide (((t.length : Nat) : Int) = ((35 : Nat) : Int)))))), (21, Pr.ex (Value.bool ((!decide (((s.length : Nat) : Int) = ((35 : Nat) : Int))) || (!decide (((t.length : Nat) : Int) = ((35 : Nat) : Int))))))] 8 hN_1 hD_1 (by kernel_rfl) (by kernel_rfl) ?_ ?_
 refine Asks.cons ?_ (Asks.cons ?_ (Asks.cons ?_ (Asks.cons ?_ (Asks.cons ?_ (Asks.cons ?_ (Asks.cons ?_ (Asks.cons ?_ (Asks.zero _))))))))
 exact Ask.plain rfl rfl fun aq wq hNq hO hR hT => does_move (V := x1) ((hO 1 rfl).trans s1_1) ⟨Ext.refl _, rfl⟩
 exact Ask.plain rfl rfl fun aq wq hNq hO hR hT => does_len (T := DG) (xs := s) sli_35 (SlT.at (hT 14 rfl rfl) (hsx1_1.ext' hR)) ⟨Ext.refl _, rfl⟩
 exact Ask.plain rfl rfl fun aq wq hNq hO hR hT => does_neq (a := ((s.length : Nat) : Int)) (b := ((35 : Nat) : Int)) (hT 15 rfl rfl) rfl ⟨Ext.refl _, rfl⟩
 exact Ask.plain rfl rfl fun aq wq hNq hO hR hT => does_move (V := Value.bool (!decide (((s.length : Nat) : Int) = ((35 : Nat) : Int)))) (hT 16 rfl rfl) ⟨Ext.refl _, rfl⟩
 refine Ask.guarded (B := !decide (((s.length : Nat) : Int) = ((35 : Nat) : Int))) (want := false) (t := 17) rfl rfl rfl rfl (by decide) (fun aq wq hO hR hT => hT 17 rfl rfl) (fun hG aq wq hNq hO hR hT => ?_) (fun hno _ => fun hc => absurd (bn hc) hno)
 replace hG := nb hG
 exact does_move (V := x2) ((hO 3 rfl).trans s3_1) ⟨Ext.refl _, fun _ => rfl⟩
 refine Ask.guarded (B := !decide (((s.length : Nat) : Int) = ((35 : Nat) : Int))) (want := false) (t := 17) rfl rfl rfl rfl (by decide) (fun aq wq hO hR hT => hT 17 rfl rfl) (fun hG aq wq hNq hO hR hT => ?_) (fun hno _ => fun hc => absurd (bn hc) hno)
 replace hG := nb hG
 exact does_len (T := DG) (xs := t) sli_35 (SlT.at (hT 18 rfl rfl hG) (hsx2_1.ext' hR)) ⟨Ext.refl _, fun _ => rfl⟩
 refine Ask.guarded (B := !decide (((s.length : Nat) : Int) = ((35 : Nat) : Int))) (want := false) (t := 17) rfl rfl rfl rfl (by decide) (fun aq wq hO hR hT => hT 17 rfl rfl) (fun hG aq wq hNq hO hR hT => ?_) (fun hno _ => fun hc => absurd (bn hc) hno)
 replace hG := nb hG
 exact does_neq (a := ((t.length : Nat) : Int)) (b := ((35 : Nat) : Int)) (hT 19 rfl rfl hG) rfl ⟨Ext.refl _, fun _ => rfl⟩
 exact Ask.plain rfl rfl fun aq wq hNq hO hR hT => does_or (B := !decide (((s.length : Nat) : Int) = ((35 : Nat) : Int))) (X := !decide (((t.length : Nat) : Int) = ((35 : Nat) : Int))) (hT 17 rfl rfl) rfl (fun hB => (hT 20 rfl rfl (nb hB))) ⟨Ext.refl _, rfl⟩
 intro a2 wd2 hN_2 hD_2 hO hR hA hU
 obtain ⟨_, _, _, _, _, _, _, t21, _⟩ := hA
 have hE_2 := hE_1.trans hR
 have s1_2 := (hO 1 rfl).trans s1_1
 have s3_2 := (hO 3 rfl).trans s3_1
 have s4_2 := (hO 4 rfl).trans s4_1
 have s6_2 := (hO 6 rfl).trans s6_1
 have s9_2 := (hO 9 rfl).trans s9_1
 have hbb4_2 := hbb4_1.ext' hR
 have hbb6_2 := hbb6_1.ext' hR
 have hbb9_2 := hbb9_1.ext' hR
 have hsx1_2 := hsx1_1.ext' hR
 have hsx2_2 := hsx2_1.ext' hR
 have s21_2 : get a2 21 = Value.bool ((!decide (((s.length : Nat) : Int) = ((35 : Nat) : Int))) || (!decide (((t.length : Nat) : Int) = ((35 : Nat) : Int)))) := t21
 clear hE_1 hN_1 hD_1 s1_1 s3_1 s4_1 s6_1 s9_1 hbb4_1 hbb6_1 hbb9_1 hsx1_1 hsx2_1
 refine tail_nil ?_
 refine wp_if (B := (!decide (((s.length : Nat) : Int) = ((35 : Nat) : Int))) || (!decide (((t.length : Nat) : Int) = ((35 : Nat) : Int)))) s21_2 (fun hc0 => ?_) (fun hc0 => ?_)
 simp at hc0; omega
 refine wp_skip ?_
 refine wp_seq ?_
 refine region_any [] [(23, Pr.ex (Dg.val (m))), (24, Pr.own' NI wd2.heap.size 3 (steps m)), (25, Pr.ex (Dg.val (o))), (26, Pr.own' NI wd2.heap.size 3 (steps o)), (11, Pr.own' NI wd2.heap.size 3 (steps m)), (12, Pr.own' NI wd2.heap.size 3 (steps o))] 6 mixed hN_2 hD_2 (by kernel_rfl) (by kernel_rfl) (by kernel_rfl) ?_ ?_
 refine Asks.cons ?_ (Asks.cons ?_ (Asks.cons ?_ (Asks.cons ?_ (Asks.cons ?_ (Asks.cons ?_ (Asks.zero _))))))
 exact Ask.plainD rfl rfl fun aq wq hNq hO hR hT => does_loadD (o := 0) (n := 4) (mid := [w32 (m).a, w32 (m).b, w32 (m).c, w32 (m).d]) ((hO 4 rfl).trans s4_2) (hbb4_2.ext' hR) rfl rfl (Nat.le_of_ble_eq_true rfl) row_24 rfl ⟨Ext.refl _, rfl⟩
 exact Ask.plainD rfl rfl fun aq wq hNq hO hR hT => does_ret (vs := #[Dg.val (m)]) call_32 (args1 (hT 23 rfl rfl)) rfl ((steps_ m wq).mono fun v w2 h => ⟨h.2, OwnT.base h.1 hR.size'⟩)
 exact Ask.plainD rfl rfl fun aq wq hNq hO hR hT => does_loadD (o := 0) (n := 4) (mid := [w32 (o).a, w32 (o).b, w32 (o).c, w32 (o).d]) ((hO 6 rfl).trans s6_2) (hbb6_2.ext' hR) rfl rfl (Nat.le_of_ble_eq_true rfl) row_24 rfl ⟨Ext.refl _, rfl⟩
 exact Ask.plainD rfl rfl fun aq wq hNq hO hR hT => does_ret (vs := #[Dg.val (o)]) call_32 (args1 (hT 25 rfl rfl)) rfl ((steps_ o wq).mono fun v w2 h => ⟨h.2, OwnT.base h.1 hR.size'⟩)
 exact Ask.plainD rfl rfl fun aq wq hNq hO hR hT => does_assign rfl ⟨Ext.refl _, (hT 24 rfl rfl)⟩
 exact Ask.plainD rfl rfl fun aq wq hNq hO hR hT => does_assign rfl ⟨Ext.refl _, (hT 26 rfl rfl)⟩
 intro a3 wd3 hN_3 hD_3 hO hR hA hU
 obtain ⟨_, _, _, _, t11, t12, _⟩ := hA
 have hE_3 := hE_2.trans hR
 have s1_3 := (hO 1 rfl).trans s1_2
 have s3_3 := (hO 3 rfl).trans s3_2
 have s9_3 := (hO 9 rfl).trans s9_2
 have hbb4_3 := hbb4_2.ext' hR
 have hbb6_3 := hbb6_2.ext' hR
 have hbb9_3 := hbb9_2.ext' hR
 have hsx1_3 := hsx1_2.ext' hR
 have hsx2_3 := hsx2_2.ext' hR
 obtain ⟨x11, s11_3⟩ : ∃ x, get a3 11 = x := ⟨_, rfl⟩
 replace t11 : OwnT NI wd2.heap.size 3 (steps m) x11 wd3 := by rw [← s11_3]; exact t11
 have nbo_x11_b4 : x11.ownBlock ≠ some b4 := fun e => Nat.lt_irrefl _ (Nat.lt_of_lt_of_le hbb4_2.lt (OwnT.block_lt t11 e).1)
 have nbo_x11_b6 : x11.ownBlock ≠ some b6 := fun e => Nat.lt_irrefl _ (Nat.lt_of_lt_of_le hbb6_2.lt (OwnT.block_lt t11 e).1)
 have nbo_x11_b9 : x11.ownBlock ≠ some b9 := fun e => Nat.lt_irrefl _ (Nat.lt_of_lt_of_le hbb9_2.lt (OwnT.block_lt t11 e).1)
 have hsx11_3 := t11.sl.wide (Nat.zero_le _) (.inl rfl)
 have hox11_3 := OwnT.base t11 hE_2.size'
 obtain ⟨x12, s12_3⟩ : ∃ x, get a3 12 = x := ⟨_, rfl⟩
 replace t12 : OwnT NI wd2.heap.size 3 (steps o) x12 wd3 := by rw [← s12_3]; exact t12
 have nbo_x12_b4 : x12.ownBlock ≠ some b4 := fun e => Nat.lt_irrefl _ (Nat.lt_of_lt_of_le hbb4_2.lt (OwnT.block_lt t12 e).1)
 have nbo_x12_b6 : x12.ownBlock ≠ some b6 := fun e => Nat.lt_irrefl _ (Nat.lt_of_lt_of_le hbb6_2.lt (OwnT.block_lt t12 e).1)
 have nbo_x12_b9 : x12.ownBlock ≠ some b9 := fun e => Nat.lt_irrefl _ (Nat.lt_of_lt_of_le hbb9_2.lt (OwnT.block_lt t12 e).1)
 have hsx12_3 := t12.sl.wide (Nat.zero_le _) (.inl rfl)
 have hox12_3 := OwnT.base t12 hE_2.size'
 clear hE_2 hN_2 hD_2 s1_2 s3_2 s4_2 s6_2 s9_2 s21_2 hbb4_2 hbb6_2 hbb9_2 hsx1_2 hsx2_2
 refine tail_nil ?_
 refine wp_seq ?_
 refine wp_seq ?_
 refine region_lex [] [(27, Pr.ex (i64 ((0 : Nat) : Int)))] 1 hN_3 hD_3 (by kernel_rfl) (by kernel_rfl) ?_ ?_
 refine Asks.cons ?_ (Asks.zero _)
 exact Ask.plain rfl rfl fun aq wq hNq hO hR hT => does_move (V := i64 ((0 : Nat) : Int)) rfl ⟨Ext.refl _, rfl⟩
 intro a4 wd4 hN_4 hD_4 hO hR hA hU
 obtain ⟨t27, _⟩ := hA
 have hE_4 := hE_3.trans hR
 have s1_4 := (hO 1 rfl).trans s1_3
 have s3_4 := (hO 3 rfl).trans s3_3
 have s9_4 := (hO 9 rfl).trans s9_3
 have s11_4 := (hO 11 rfl).trans s11_3
 have s12_4 := (hO 12 rfl).trans s12_3
 have hbb4_4 := hbb4_3.ext' hR
 have hbb6_4 := hbb6_3.ext' hR
 have hbb9_4 := hbb9_3.ext' hR
 have hsx1_4 := hsx1_3.ext' hR
 have hsx2_4 := hsx2_3.ext' hR
 have hsx11_4 := hsx11_3.ext' hR
 have hsx12_4 := hsx12_3.ext' hR
 have hox11_4 := hox11_3.ext' hR
 have hox12_4 := hox12_3.ext' hR
 have s27_4 : get a4 27 = i64 ((0 : Nat) : Int) := t27
 clear hE_3 hN_3 hD_3 s1_3 s3_3 s9_3 s11_3 s12_3 hbb4_3 hbb6_3 hbb9_3 hsx1_3 hsx2_3 hsx11_3 hsx12_3 hox11_3 hox12_3
 refine tail_nil ?_
 refine wp_block ?_
 refine loop_g (fun mz az wz => ∃ k : Nat, mz = 35 - k ∧ (az.tmps.size = 67) ∧ (az.defers = []) ∧ (get az 1 = x1) ∧ (get az 3 = x2) ∧ (get az 9 = Value.pointer (some ⟨b9, 0, none⟩)) ∧ (get az 11 = x11) ∧ (get az 12 = x12) ∧ (get az 27 = i64 ((k : Nat) : Int)) ∧ (Ext w0 wz) ∧ (Has wz b4 24 [w32 (m).a, w32 (m).b, w32 (m).c, w32 (m).d]) ∧ (Has wz b6 24 [w32 (o).a, w32 (o).b, w32 (o).c, w32 (o).d]) ∧ (Has wz b9 24 [w32 (Dg.zero).a, w32 (Dg.zero).b, w32 (Dg.zero).c, w32 (Dg.zero).d]) ∧ (SlT DG 0 (w0.heap.size + 1) (s) x1 wz) ∧ (SlT DG 0 (w0.heap.size + 1) (t) x2 wz) ∧ (SlT NI 0 0 (steps m) x11 wz) ∧ (SlT NI 0 0 (steps o) x12 wz) ∧ (OwnT NI w0.heap.size 3 (steps m) x11 wz) ∧ (x11.ownBlock ≠ some b4) ∧ (x11.ownBlock ≠ some b6) ∧ (x11.ownBlock ≠ some b9) ∧ (OwnT NI w0.heap.size 3 (steps o) x12 wz) ∧ (x12.ownBlock ≠ some b4) ∧ (x12.ownBlock ≠ some b6) ∧ (x12.ownBlock ≠ some b9) ∧ (k ≤ 35) ∧ (∀ j, j < k → aheadAt m s o t j = false)) ?_ ?_
 exact ⟨_, 0, rfl, hN_4, hD_4, s1_4, s3_4, s9_4, s11_4, s12_4, s27_4, hE_4, hbb4_4, hbb6_4, hbb9_4, hsx1_4, hsx2_4, hsx11_4, hsx12_4, hox11_4, nbo_x11_b4, nbo_x11_b6, nbo_x11_b9, hox12_4, nbo_x12_b4, nbo_x12_b6, nbo_x12_b9, by decide, fun j hj => absurd hj (Nat.not_lt_zero _)⟩
 rintro mz a5 wd5 ⟨k, rfl, hN_5, hD_5, s1_5, s3_5, s9_5, s11_5, s12_5, s27_5, hE_5, hbb4_5, hbb6_5, hbb9_5, hsx1_5, hsx2_5, hsx11_5, hsx12_5, hox11_5, nbo_x11_b4, nbo_x11_b6, nbo_x11_b9, hox12_5, nbo_x12_b4, nbo_x12_b6, nbo_x12_b9, hk, hall⟩
 have hsx11_5 := hox11_5.sl.wide (Nat.zero_le _) (.inl rfl)
 have hsx12_5 := hox12_5.sl.wide (Nat.zero_le _) (.inl rfl)
 refine wp_seq ?_
 refine region_lex [] [(28, Pr.ex (Value.bool (decide (((k : Nat) : Int) < ((35 : Nat) : Int)))))] 1 hN_5 hD_5 (by kernel_rfl) (by kernel_rfl) ?_ ?_
 refine Asks.cons ?_ (Asks.zero _)
 exact Ask.plain rfl rfl fun aq wq hNq hO hR hT => does_lss (a := ((k : Nat) : Int)) (b := ((35 : Nat) : Int)) ((hO 27 rfl).trans s27_5) rfl ⟨Ext.refl _, rfl⟩
 intro a6 wd6 hN_6 hD_6 hO hR hA hU
 obtain ⟨t28, _⟩ := hA
 have hE_6 := hE_5.trans hR
 have s1_6 := (hO 1 rfl).trans s1_5
 have s3_6 := (hO 3 rfl).trans s3_5
 have s9_6 := (hO 9 rfl).trans s9_5
 have s11_6 := (hO 11 rfl).trans s11_5
 have s12_6 := (hO 12 rfl).trans s12_5
 have s27_6 := (hO 27 rfl).trans s27_5
 have hbb4_6 := hbb4_5.ext' hR
 have hbb6_6 := hbb6_5.ext' hR
 have hbb9_6 := hbb9_5.ext' hR
 have hsx1_6 := hsx1_5.ext' hR
 have hsx2_6 := hsx2_5.ext' hR
 have hsx11_6 := hsx11_5.ext' hR
 have hsx12_6 := hsx12_5.ext' hR
 have hox11_6 := hox11_5.ext' hR
 have hox12_6 := hox12_5.ext' hR
 have s28_6 : get a6 28 = Value.bool (decide (((k : Nat) : Int) < ((35 : Nat) : Int))) := t28
 clear hE_5 hN_5 hD_5 s1_5 s3_5 s9_5 s11_5 s12_5 s27_5 hbb4_5 hbb6_5 hbb9_5 hsx1_5 hsx2_5 hsx11_5 hsx12_5 hox11_5 hox12_5
 refine tail_nil ?_
 refine wp_seq ?_
 refine wp_if (B := decide (((k : Nat) : Int) < ((35 : Nat) : Int))) s28_6 (fun hc1 => ?_) (fun hc1 => ?_)
 have hc1 := of_decide_eq_true hc1
 have hk35 : k < 35 := by omega
 have hle := steps_le m k
 refine wp_skip ?_
 refine wp_seq ?_
 refine wp_block ?_
 refine wp_seq ?_
 refine region_lex [] [(29, Pr.ex (i64 ((k : Nat) : Int))), (13, Pr.ex (i64 ((k : Nat) : Int)))] 2 hN_6 hD_6 (by kernel_rfl) (by kernel_rfl) ?_ ?_
 refine Asks.cons ?_ (Asks.cons ?_ (Asks.zero _))
 exact Ask.plain rfl rfl fun aq wq hNq hO hR hT => does_move (V := i64 ((k : Nat) : Int)) ((hO 27 rfl).trans s27_6) ⟨Ext.refl _, rfl⟩
 exact Ask.plain rfl rfl fun aq wq hNq hO hR hT => does_assign (V := i64 ((k : Nat) : Int)) (hT 29 rfl rfl) ⟨Ext.refl _, rfl⟩
 intro a7 wd7 hN_7 hD_7 hO hR hA hU
 obtain ⟨_, t13, _⟩ := hA
 have hE_7 := hE_6.trans hR
 have s1_7 := (hO 1 rfl).trans s1_6
 have s3_7 := (hO 3 rfl).trans s3_6
 have s9_7 := (hO 9 rfl).trans s9_6
 have s11_7 := (hO 11 rfl).trans s11_6
 have s12_7 := (hO 12 rfl).trans s12_6
 have s27_7 := (hO 27 rfl).trans s27_6
 have hbb4_7 := hbb4_6.ext' hR
 have hbb6_7 := hbb6_6.ext' hR
 have hbb9_7 := hbb9_6.ext' hR
 have hsx1_7 := hsx1_6.ext' hR
 have hsx2_7 := hsx2_6.ext' hR
 have hsx11_7 := hsx11_6.ext' hR
 have hsx12_7 := hsx12_6.ext' hR
 have hox11_7 := hox11_6.ext' hR
 have hox12_7 := hox12_6.ext' hR
 have s13_7 : get a7 13 = i64 ((k : Nat) : Int) := t13
 clear hE_6 hN_6 hD_6 s1_6 s3_6 s9_6 s11_6 s12_6 s27_6 s28_6 hbb4_6 hbb6_6 hbb9_6 hsx1_6 hsx2_6 hsx11_6 hsx12_6 hox11_6 hox12_6
 refine tail_nil ?_
 refine wp_seq ?_
 refine region_any [] [(30, Pr.ex (x12)), (31, Pr.ex (i64 ((k : Nat) : Int))), (32, Pr.pt' 0 0 [i64 (((steps o).getD k 0 : Nat) : Int)]), (33, Pr.ex (i64 (((steps o).getD k 0 : Nat) : Int))), (34, Pr.ex (x11)), (35, Pr.ex (i64 ((k : Nat) : Int))), (36, Pr.pt' 0 0 [i64 (((steps m).getD k 0 : Nat) : Int)]), (37, Pr.ex (i64 (((steps m).getD k 0 : Nat) : Int))), (38, Pr.ex (Value.bool (decide ((((steps o).getD k 0 : Nat) : Int) < (((steps m).getD k 0 : Nat) : Int))))), (39, Pr.ex (Value.bool (decide ((((steps o).getD k 0 : Nat) : Int) < (((steps m).getD k 0 : Nat) : Int))))), (40, Pr.ifb (decide ((((steps o).getD k 0 : Nat) : Int) < (((steps m).getD k 0 : Nat) : Int))) (Pr.ex (x2))), (41, Pr.ifb (decide ((((steps o).getD k 0 : Nat) : Int) < (((steps m).getD k 0 : Nat) : Int))) (Pr.ex (i64 ((k : Nat) : Int)))), (42, Pr.ifb (decide ((((steps o).getD k 0 : Nat) : Int) < (((steps m).getD k 0 : Nat) : Int))) (Pr.pt' 0 (w0.heap.size + 1) [w32 ((t.getD k Dg.zero)).a, w32 ((t.getD k Dg.zero)).b, w32 ((t.getD k Dg.zero)).c, w32 ((t.getD k Dg.zero)).d])), (43, Pr.ifb (decide ((((steps o).getD k 0 : Nat) : Int) < (((steps m).getD k 0 : Nat) : Int))) (Pr.ex (Dg.val ((t.getD k Dg.zero))))), (44, Pr.ifb (decide ((((steps o).getD k 0 : Nat) : Int) < (((steps m).getD k 0 : Nat) : Int))) (Pr.ex (x11))), (45, Pr.ifb (decide ((((steps o).getD k 0 : Nat) : Int) < (((steps m).getD k 0 : Nat) : Int))) (Pr.ex (i64 ((k : Nat) : Int)))), (46, Pr.ifb (decide ((((steps o).getD k 0 : Nat) : Int) < (((steps m).getD k 0 : Nat) : Int))) (Pr.pt' 0 0 [i64 (((steps m).getD k 0 : Nat) : Int)])), (47, Pr.ifb (decide ((((steps o).getD k 0 : Nat) : Int) < (((steps m).getD k 0 : Nat) : Int))) (Pr.ex (i64 (((steps m).getD k 0 : Nat) : Int)))), (48, Pr.ifb (decide ((((steps o).getD k 0 : Nat) : Int) < (((steps m).getD k 0 : Nat) : Int))) (Pr.ex (x12))), (49, Pr.ifb (decide ((((steps o).getD k 0 : Nat) : Int) < (((steps m).getD k 0 : Nat) : Int))) (Pr.ex (i64 ((k : Nat) : Int)))), (50, Pr.ifb (decide ((((steps o).getD k 0 : Nat) : Int) < (((steps m).getD k 0 : Nat) : Int))) (Pr.pt' 0 0 [i64 (((steps o).getD k 0 : Nat) : Int)])), (51, Pr.ifb (decide ((((steps o).getD k 0 : Nat) : Int) < (((steps m).getD k 0 : Nat) : Int))) (Pr.ex (i64 (((steps o).getD k 0 : Nat) : Int)))), (52, Pr.ifb (decide ((((steps o).getD k 0 : Nat) : Int) < (((steps m).getD k 0 : Nat) : Int))) (Pr.ex (i64 ((((steps m).getD k 0) - ((steps o).getD k 0) : Nat) : Int)))), (53, Pr.ifb (decide ((((steps o).getD k 0 : Nat) : Int) < (((steps m).getD k 0 : Nat) : Int))) (Pr.ex (Dg.val (walk ((t.getD k Dg.zero)) (((steps m).getD k 0) - ((steps o).getD k 0)))))), (54, Pr.ifb (decide ((((steps o).getD k 0 : Nat) : Int) < (((steps m).getD k 0 : Nat) : Int))) (Pr.ex (x1))), (55, Pr.ifb (decide ((((steps o).getD k 0 : Nat) : Int) < (((steps m).getD k 0 : Nat) : Int))) (Pr.ex (i64 ((k : Nat) : Int)))), (56, Pr.ifb (decide ((((steps o).getD k 0 : Nat) : Int) < (((steps m).getD k 0 : Nat) : Int))) (Pr.pt' 0 (w0.heap.size + 1) [w32 ((s.getD k Dg.zero)).a, w32 ((s.getD k Dg.zero)).b, w32 ((s.getD k Dg.zero)).c, w32 ((s.getD k Dg.zero)).d])), (57, Pr.ifb (decide ((((steps o).getD k 0 : Nat) : Int) < (((steps m).getD k 0 : Nat) : Int))) (Pr.ex (Dg.val ((s.getD k Dg.zero))))), (58, Pr.ifb (decide ((((steps o).getD k 0 : Nat) : Int) < (((steps m).getD k 0 : Nat) : Int))) (Pr.ex (Value.bool (decide (walk ((t.getD k Dg.zero)) (((steps m).getD k 0) - ((steps o).getD k 0)) = (s.getD k Dg.zero)))))), (59, Pr.ex (Value.bool ((decide ((((steps o).getD k 0 : Nat) : Int) < (((steps m).getD k 0 : Nat) : Int))) && (decide (walk ((t.getD k Dg.zero)) (((steps m).getD k 0) - ((steps o).getD k 0)) = (s.getD k Dg.zero))))))] 30 mixed hN_7 hD_7 (by kernel_rfl) (by kernel_rfl) (by kernel_rfl) ?_ ?_
 refine Asks.cons ?_ (Asks.cons ?_ (Asks.cons ?_ (Asks.cons ?_ (Asks.cons ?_ (Asks.cons ?_ (Asks.cons ?_ (Asks.cons ?_ (Asks.cons ?_ (Asks.cons ?_ (Asks.cons ?_ (Asks.cons ?_ (Asks.cons ?_ (Asks.cons ?_ (Asks.cons ?_ (Asks.cons ?_ (Asks.cons ?_ (Asks.cons ?_ (Asks.cons ?_ (Asks.cons ?_ (Asks.cons ?_ (Asks.cons ?_ (Asks.cons ?_ (Asks.cons ?_ (Asks.cons ?_ (Asks.cons ?_ (Asks.cons ?_ (Asks.cons ?_ (Asks.cons ?_ (Asks.cons ?_ (Asks.zero _))))))))))))))))))))))))))))))
 exact Ask.plainD rfl rfl fun aq wq hNq hO hR hT => does_move (V := x12) ((hO 12 rfl).trans s12_7) ⟨Ext.refl _, rfl⟩
 exact Ask.plainD rfl rfl fun aq wq hNq hO hR hT => does_move (V := i64 ((k : Nat) : Int)) ((hO 13 rfl).trans s13_7) ⟨Ext.refl _, rfl⟩
 exact Ask.plainD rfl rfl fun aq wq hNq hO hR hT => does_indexSl (T := NI) (xs := steps o) (i := ((k : Nat) : Int)) (X := (steps o).getD k 0) sli_61 rfl (SlT.at (hT 30 rfl rfl) (hsx12_7.ext' hR)) (hT 31 rfl rfl) (by omega) (steps_get o hk35) (fun v h => ⟨Ext.refl _, h⟩)
 exact Ask.plainD rfl rfl fun aq wq hNq hO hR hT => does_loadP1 (V := i64 (((steps o).getD k 0 : Nat) : Int)) (hT 32 rfl rfl) one_3 ⟨Ext.refl _, rfl⟩
 exact Ask.plainD rfl rfl fun aq wq hNq hO hR hT => does_move (V := x11) ((hO 11 rfl).trans s11_7) ⟨Ext.refl _, rfl⟩
 exact Ask.plainD rfl rfl fun aq wq hNq hO hR hT => does_move (V := i64 ((k : Nat) : Int)) ((hO 13 rfl).trans s13_7) ⟨Ext.refl _, rfl⟩
 exact Ask.plainD rfl rfl fun aq wq hNq hO hR hT => does_indexSl (T := NI) (xs := steps m) (i := ((k : Nat) : Int)) (X := (steps m).getD k 0) sli_61 rfl (SlT.at (hT 34 rfl rfl) (hsx11_7.ext' hR)) (hT 35 rfl rfl) (by omega) (steps_get m hk35) (fun v h => ⟨Ext.refl _, h⟩)
 exact Ask.plainD rfl rfl fun aq wq hNq hO hR hT => does_loadP1 (V := i64 (((steps m).getD k 0 : Nat) : Int)) (hT 36 rfl rfl) one_3 ⟨Ext.refl _, rfl⟩
 exact Ask.plainD rfl rfl fun aq wq hNq hO hR hT => does_lss (a := (((steps o).getD k 0 : Nat) : Int)) (b := (((steps m).getD k 0 : Nat) : Int)) (hT 33 rfl rfl) (hT 37 rfl rfl) ⟨Ext.refl _, rfl⟩
 exact Ask.plainD rfl rfl fun aq wq hNq hO hR hT => does_move (V := Value.bool (decide ((((steps o).getD k 0 : Nat) : Int) < (((steps m).getD k 0 : Nat) : Int)))) (hT 38 rfl rfl) ⟨Ext.refl _, rfl⟩
 refine Ask.guarded (B := decide ((((steps o).getD k 0 : Nat) : Int) < (((steps m).getD k 0 : Nat) : Int))) (want := true) (t := 39) rfl rfl rfl rfl (by decide) (fun aq wq hO hR hT => hT 39 rfl rfl) (fun hG aq wq hNq hO hR hT => ?_) (fun hno _ => fun hc => absurd hc hno)
 replace hR := (Ext.drew _).trans hR
 exact does_move (V := x2) ((hO 3 rfl).trans s3_7) ⟨Ext.refl _, fun _ => rfl⟩
 refine Ask.guarded (B := decide ((((steps o).getD k 0 : Nat) : Int) < (((steps m).getD k 0 : Nat) : Int))) (want := true) (t := 39) rfl rfl rfl rfl (by decide) (fun aq wq hO hR hT => hT 39 rfl rfl) (fun hG aq wq hNq hO hR hT => ?_) (fun hno _ => fun hc => absurd hc hno)
 replace hR := (Ext.drew _).trans hR
 exact does_move (V := i64 ((k : Nat) : Int)) ((hO 13 rfl).trans s13_7) ⟨Ext.refl _, fun _ => rfl⟩
 refine Ask.guarded (B := decide ((((steps o).getD k 0 : Nat) : Int) < (((steps m).getD k 0 : Nat) : Int))) (want := true) (t := 39) rfl rfl rfl rfl (by decide) (fun aq wq hO hR hT => hT 39 rfl rfl) (fun hG aq wq hNq hO hR hT => ?_) (fun hno _ => fun hc => absurd hc hno)
 replace hR := (Ext.drew _).trans hR
 exact does_indexSl (T := DG) (xs := t) (i := ((k : Nat) : Int)) (X := (t.getD k Dg.zero)) sli_35 rfl (SlT.at (hT 40 rfl rfl hG) (hsx2_7.ext' hR)) (hT 41 rfl rfl hG) (by omega) (getD_get (by omega)) (fun v h => ⟨Ext.refl _, fun _ => h⟩)
 refine Ask.guarded (B := decide ((((steps o).getD k 0 : Nat) : Int) < (((steps m).getD k 0 : Nat) : Int))) (want := true) (t := 39) rfl rfl rfl rfl (by decide) (fun aq wq hO hR hT => hT 39 rfl rfl) (fun hG aq wq hNq hO hR hT => ?_) (fun hno _ => fun hc => absurd hc hno)
 replace hR := (Ext.drew _).trans hR
 exact does_loadP (cs := [w32 ((t.getD k Dg.zero)).a, w32 ((t.getD k Dg.zero)).b, w32 ((t.getD k Dg.zero)).c, w32 ((t.getD k Dg.zero)).d]) (hT 42 rfl rfl hG) row_24 rfl ⟨Ext.refl _, fun _ => rfl⟩
 refine Ask.guarded (B := decide ((((steps o).getD k 0 : Nat) : Int) < (((steps m).getD k 0 : Nat) : Int))) (want := true) (t := 39) rfl rfl rfl rfl (by decide) (fun aq wq hO hR hT => hT 39 rfl rfl) (fun hG aq wq hNq hO hR hT => ?_) (fun hno _ => fun hc => absurd hc hno)
 replace hR := (Ext.drew _).trans hR
 exact does_move (V := x11) ((hO 11 rfl).trans s11_7) ⟨Ext.refl _, fun _ => rfl⟩
 refine Ask.guarded (B := decide ((((steps o).getD k 0 : Nat) : Int) < (((steps m).getD k 0 : Nat) : Int))) (want := true) (t := 39) rfl rfl rfl rfl (by decide) (fun aq wq hO hR hT => hT 39 rfl rfl) (fun hG aq wq hNq hO hR hT => ?_) (fun hno _ => fun hc => absurd hc hno)
 replace hR := (Ext.drew _).trans hR
 exact does_move (V := i64 ((k : Nat) : Int)) ((hO 13 rfl).trans s13_7) ⟨Ext.refl _, fun _ => rfl⟩
 refine Ask.guarded (B := decide ((((steps o).getD k 0 : Nat) : Int) < (((steps m).getD k 0 : Nat) : Int))) (want := true) (t := 39) rfl rfl rfl rfl (by decide) (fun aq wq hO hR hT => hT 39 rfl rfl) (fun hG aq wq hNq hO hR hT => ?_) (fun hno _ => fun hc => absurd hc hno)
 replace hR := (Ext.drew _).trans hR
 exact does_indexSl (T := NI) (xs := steps m) (i := ((k : Nat) : Int)) (X := (steps m).getD k 0) sli_61 rfl (SlT.at (hT 44 rfl rfl hG) (hsx11_7.ext' hR)) (hT 45 rfl rfl hG) (by omega) (steps_get m hk35) (fun v h => ⟨Ext.refl _, fun _ => h⟩)
 refine Ask.guarded (B := decide ((((steps o).getD k 0 : Nat) : Int) < (((steps m).getD k 0 : Nat) : Int))) (want := true) (t := 39) rfl rfl rfl rfl (by decide) (fun aq wq hO hR hT => hT 39 rfl rfl) (fun hG aq wq hNq hO hR hT => ?_) (fun hno _ => fun hc => absurd hc hno)
 replace hR := (Ext.drew _).trans hR
 exact does_loadP1 (V := i64 (((steps m).getD k 0 : Nat) : Int)) (hT 46 rfl rfl hG) one_3 ⟨Ext.refl _, fun _ => rfl⟩
 refine Ask.guarded (B := decide ((((steps o).getD k 0 : Nat) : Int) < (((steps m).getD k 0 : Nat) : Int))) (want := true) (t := 39) rfl rfl rfl rfl (by decide) (fun aq wq hO hR hT => hT 39 rfl rfl) (fun hG aq wq hNq hO hR hT => ?_) (fun hno _ => fun hc => absurd hc hno)
 replace hR := (Ext.drew _).trans hR
 exact does_move (V := x12) ((hO 12 rfl).trans s12_7) ⟨Ext.refl _, fun _ => rfl⟩
 refine Ask.guarded (B := decide ((((steps o).getD k 0 : Nat) : Int) < (((steps m).getD k 0 : Nat) : Int))) (want := true) (t := 39) rfl rfl rfl rfl (by decide) (fun aq wq hO hR hT => hT 39 rfl rfl) (fun hG aq wq hNq hO hR hT => ?_) (fun hno _ => fun hc => absurd hc hno)
 replace hR := (Ext.drew _).trans hR
 exact does_move (V := i64 ((k : Nat) : Int)) ((hO 13 rfl).trans s13_7) ⟨Ext.refl _, fun _ => rfl⟩
 refine Ask.guarded (B := decide ((((steps o).getD k 0 : Nat) : Int) < (((steps m).getD k 0 : Nat) : Int))) (want := true) (t := 39) rfl rfl rfl rfl (by decide) (fun aq wq hO hR hT => hT 39 rfl rfl) (fun hG aq wq hNq hO hR hT => ?_) (fun hno _ => fun hc => absurd hc hno)
 replace hR := (Ext.drew _).trans hR
 exact does_indexSl (T := NI) (xs := steps o) (i := ((k : Nat) : Int)) (X := (steps o).getD k 0) sli_61 rfl (SlT.at (hT 48 rfl rfl hG) (hsx12_7.ext' hR)) (hT 49 rfl rfl hG) (by omega) (steps_get o hk35) (fun v h => ⟨Ext.refl _, fun _ => h⟩)
 refine Ask.guarded (B := decide ((((steps o).getD k 0 : Nat) : Int) < (((steps m).getD k 0 : Nat) : Int))) (want := true) (t := 39) rfl rfl rfl rfl (by decide) (fun aq wq hO hR hT => hT 39 rfl rfl) (fun hG aq wq hNq hO hR hT => ?_) (fun hno _ => fun hc => absurd hc hno)
 replace hR := (Ext.drew _).trans hR
 exact does_loadP1 (V := i64 (((steps o).getD k 0 : Nat) : Int)) (hT 50 rfl rfl hG) one_3 ⟨Ext.refl _, fun _ => rfl⟩
 refine Ask.guarded (B := decide ((((steps o).getD k 0 : Nat) : Int) < (((steps m).getD k 0 : Nat) : Int))) (want := true) (t := 39) rfl rfl rfl rfl (by decide) (fun aq wq hO hR hT => hT 39 rfl rfl) (fun hG aq wq hNq hO hR hT => ?_) (fun hno _ => fun hc => absurd hc hno)
 replace hR := (Ext.drew _).trans hR
 have hlt := of_decide_eq_true hG
 exact does_sub (a := (((steps m).getD k 0 : Nat) : Int)) (b := (((steps o).getD k 0 : Nat) : Int)) (r := ((((steps m).getD k 0) - ((steps o).getD k 0) : Nat) : Int)) (hT 47 rfl rfl hG) (hT 51 rfl rfl hG) (by omega) (by omega) (by omega) ⟨Ext.refl _, fun _ => rfl⟩
 refine Ask.guarded (B := decide ((((steps o).getD k 0 : Nat) : Int) < (((steps m).getD k 0 : Nat) : Int))) (want := true) (t := 39) rfl rfl rfl rfl (by decide) (fun aq wq hO hR hT => hT 39 rfl rfl) (fun hG aq wq hNq hO hR hT => ?_) (fun hno _ => fun hc => absurd hc hno)
 replace hR := (Ext.drew _).trans hR
 exact does_ret (vs := #[Dg.val ((t.getD k Dg.zero)), i64 ((((steps m).getD k 0) - ((steps o).getD k 0) : Nat) : Int)]) call_33 (args2 (hT 43 rfl rfl hG) (hT 52 rfl rfl hG)) rfl ((along_ ((t.getD k Dg.zero)) (((steps m).getD k 0) - ((steps o).getD k 0)) wq (hL.ext (hE_7.trans hR)) (by omega)).mono fun v w2 h => ⟨h.2, fun _ => h.1⟩)
 refine Ask.guarded (B := decide ((((steps o).getD k 0 : Nat) : Int) < (((steps m).getD k 0 : Nat) : Int))) (want := true) (t := 39) rfl rfl rfl rfl (by decide) (fun aq wq hO hR hT => hT 39 rfl rfl) (fun hG aq wq hNq hO hR hT => ?_) (fun hno _ => fun hc => absurd hc hno)
 replace hR := (Ext.drew _).trans hR
 exact does_move (V := x1) ((hO 1 rfl).trans s1_7) ⟨Ext.refl _, fun _ => rfl⟩
 refine Ask.guarded (B := decide ((((steps o).getD k 0 : Nat) : Int) < (((steps m).getD k 0 : Nat) : Int))) (want := true) (t := 39) rfl rfl rfl rfl (by decide) (fun aq wq hO hR hT => hT 39 rfl rfl) (fun hG aq wq hNq hO hR hT => ?_) (fun hno _ => fun hc => absurd hc hno)
 replace hR := (Ext.drew _).trans hR
 exact does_move (V := i64 ((k : Nat) : Int)) ((hO 13 rfl).trans s13_7) ⟨Ext.refl _, fun _ => rfl⟩
 refine Ask.guarded (B := decide ((((steps o).getD k 0 : Nat) : Int) < (((steps m).getD k 0 : Nat) : Int))) (want := true) (t := 39) rfl rfl rfl rfl (by decide) (fun aq wq hO hR hT => hT 39 rfl rfl) (fun hG aq wq hNq hO hR hT => ?_) (fun hno _ => fun hc => absurd hc hno)
 replace hR := (Ext.drew _).trans hR
 exact does_indexSl (T := DG) (xs := s) (i := ((k : Nat) : Int)) (X := (s.getD k Dg.zero)) sli_35 rfl (SlT.at (hT 54 rfl rfl hG) (hsx1_7.ext' hR)) (hT 55 rfl rfl hG) (by omega) (getD_get (by omega)) (fun v h => ⟨Ext.refl _, fun _ => h⟩)
 refine Ask.guarded (B := decide ((((steps o).getD k 0 : Nat) : Int) < (((steps m).getD k 0 : Nat) : Int))) (want := true) (t := 39) rfl rfl rfl rfl (by decide) (fun aq wq hO hR hT => hT 39 rfl rfl) (fun hG aq wq hNq hO hR hT => ?_) (fun hno _ => fun hc => absurd hc hno)
 replace hR := (Ext.drew _).trans hR
 exact does_loadP (cs := [w32 ((s.getD k Dg.zero)).a, w32 ((s.getD k Dg.zero)).b, w32 ((s.getD k Dg.zero)).c, w32 ((s.getD k Dg.zero)).d]) (hT 56 rfl rfl hG) row_24 rfl ⟨Ext.refl _, fun _ => rfl⟩
 refine Ask.guarded (B := decide ((((steps o).getD k 0 : Nat) : Int) < (((steps m).getD k 0 : Nat) : Int))) (want := true) (t := 39) rfl rfl rfl rfl (by decide) (fun aq wq hO hR hT => hT 39 rfl rfl) (fun hG aq wq hNq hO hR hT => ?_) (fun hno _ => fun hc => absurd hc hno)
 replace hR := (Ext.drew _).trans hR
 exact does_eqT (a := walk ((t.getD k Dg.zero)) (((steps m).getD k 0) - ((steps o).getD k 0))) (b := (s.getD k Dg.zero)) eq_24 (hT 53 rfl rfl hG) (hT 57 rfl rfl hG) ⟨Ext.refl _, fun _ => rfl⟩
 exact Ask.plainD rfl rfl fun aq wq hNq hO hR hT => does_and (B := decide ((((steps o).getD k 0 : Nat) : Int) < (((steps m).getD k 0 : Nat) : Int))) (X := decide (walk ((t.getD k Dg.zero)) (((steps m).getD k 0) - ((steps o).getD k 0)) = (s.getD k Dg.zero))) (hT 39 rfl rfl) (fun hB => (hT 58 rfl rfl hB)) rfl ⟨Ext.refl _, rfl⟩
 intro a8 wd8 hN_8 hD_8 hO hR hA hU
 obtain ⟨_, _, _, _, _, _, _, _, _, _, _, _, _, _, _, _, _, _, _, _, _, _, _, _, _, _, _, _, _, t59, _⟩ := hA
 have hE_8 := hE_7.trans hR
 have s1_8 := (hO 1 rfl).trans s1_7
 have s3_8 := (hO 3 rfl).trans s3_7
 have s9_8 := (hO 9 rfl).trans s9_7
 have s11_8 := (hO 11 rfl).trans s11_7
 have s12_8 := (hO 12 rfl).trans s12_7
 have s13_8 := (hO 13 rfl).trans s13_7
 have s27_8 := (hO 27 rfl).trans s27_7
 have hbb4_8 := hbb4_7.ext' hR
 have hbb6_8 := hbb6_7.ext' hR
 have hbb9_8 := hbb9_7.ext' hR
 have hsx1_8 := hsx1_7.ext' hR
 have hsx2_8 := hsx2_7.ext' hR
 have hsx11_8 := hsx11_7.ext' hR
 have hsx12_8 := hsx12_7.ext' hR
 have hox11_8 := hox11_7.ext' hR
 have hox12_8 := hox12_7.ext' hR
 have s59_8 : get a8 59 = Value.bool ((decide ((((steps o).getD k 0 : Nat) : Int) < (((steps m).getD k 0 : Nat) : Int))) && (decide (walk ((t.getD k Dg.zero)) (((steps m).getD k 0) - ((steps o).getD k 0)) = (s.getD k Dg.zero)))) := t59
 clear hE_7 hN_7 hD_7 s1_7 s3_7 s9_7 s11_7 s12_7 s13_7 s27_7 hbb4_7 hbb6_7 hbb9_7 hsx1_7 hsx2_7 hsx11_7 hsx12_7 hox11_7 hox12_7
 refine tail_nil ?_
 refine wp_if (B := (decide ((((steps o).getD k 0 : Nat) : Int) < (((steps m).getD k 0 : Nat) : Int))) && (decide (walk ((t.getD k Dg.zero)) (((steps m).getD k 0) - ((steps o).getD k 0)) = (s.getD k Dg.zero)))) s59_8 (fun hc2 => ?_) (fun hc2 => ?_)
 rw [← aheadAt_ints] at hc2
 refine wp_seq ?_
 refine region_any [] [(60, Pr.ex (i64 ((k : Nat) : Int))), (61, Pr.ex (x2)), (62, Pr.ex (i64 ((k : Nat) : Int))), (63, Pr.pt' 0 (w0.heap.size + 1) [w32 ((t.getD k Dg.zero)).a, w32 ((t.getD k Dg.zero)).b, w32 ((t.getD k Dg.zero)).c, w32 ((t.getD k Dg.zero)).d]), (64, Pr.ex (Dg.val ((t.getD k Dg.zero)))), (8, Pr.ex (i64 ((k : Nat) : Int)))] 6 mixed hN_8 hD_8 (by kernel_rfl) (by kernel_rfl) (by kernel_rfl) ?_ ?_
 refine Asks.cons ?_ (Asks.cons ?_ (Asks.cons ?_ (Asks.cons ?_ (Asks.cons ?_ (Asks.cons ?_ (Asks.zero _))))))
 exact Ask.plainD rfl rfl fun aq wq hNq hO hR hT => does_move (V := i64 ((k : Nat) : Int)) ((hO 13 rfl).trans s13_8) ⟨Ext.refl _, rfl⟩
 exact Ask.plainD rfl rfl fun aq wq hNq hO hR hT => does_move (V := x2) ((hO 3 rfl).trans s3_8) ⟨Ext.refl _, rfl⟩
 exact Ask.plainD rfl rfl fun aq wq hNq hO hR hT => does_move (V := i64 ((k : Nat) : Int)) ((hO 13 rfl).trans s13_8) ⟨Ext.refl _, rfl⟩
 exact Ask.plainD rfl rfl fun aq wq hNq hO hR hT => does_indexSl (T := DG) (xs := t) (i := ((k : Nat) : Int)) (X := (t.getD k Dg.zero)) sli_35 rfl (SlT.at (hT 61 rfl rfl) (hsx2_8.ext' hR)) (hT 62 rfl rfl) (by omega) (getD_get (by omega)) (fun v h => ⟨Ext.refl _, h⟩)
 exact Ask.plainD rfl rfl fun aq wq hNq hO hR hT => does_loadP (cs := [w32 ((t.getD k Dg.zero)).a, w32 ((t.getD k Dg.zero)).b, w32 ((t.getD k Dg.zero)).c, w32 ((t.getD k Dg.zero)).d]) (hT 63 rfl rfl) row_24 rfl ⟨Ext.refl _, rfl⟩
 exact Ask.plainD rfl rfl fun aq wq hNq hO hR hT => does_assign (V := i64 ((k : Nat) : Int)) (hT 60 rfl rfl) ⟨Ext.refl _, rfl⟩
 intro a9 wd9 hN_9 hD_9 hO hR hA hU
 obtain ⟨_, _, _, _, t64, t8, _⟩ := hA
 have hE_9 := hE_8.trans hR
 have s9_9 := (hO 9 rfl).trans s9_8
 have hbb4_9 := hbb4_8.ext' hR
 have hbb6_9 := hbb6_8.ext' hR
 have hbb9_9 := hbb9_8.ext' hR
 have hsx1_9 := hsx1_8.ext' hR
 have hsx2_9 := hsx2_8.ext' hR
 have hsx11_9 := hsx11_8.ext' hR
 have hsx12_9 := hsx12_8.ext' hR
 have hox11_9 := hox11_8.ext' hR
 have hox12_9 := hox12_8.ext' hR
 have s64_9 : get a9 64 = Dg.val ((t.getD k Dg.zero)) := t64
 have s8_9 : get a9 8 = i64 ((k : Nat) : Int) := t8
 clear hE_8 hN_8 hD_8 s1_8 s3_8 s9_8 s11_8 s12_8 s13_8 s27_8 s59_8 hbb4_8 hbb6_8 hbb9_8 hsx1_8 hsx2_8 hsx11_8 hsx12_8 hox11_8 hox12_8
 refine tail_none rfl rfl (does_storeD (o := 0) (n := 4) (cs' := [w32 ((t.getD k Dg.zero)).a, w32 ((t.getD k Dg.zero)).b, w32 ((t.getD k Dg.zero)).c, w32 ((t.getD k Dg.zero)).d]) (V := Dg.val ((t.getD k Dg.zero))) s9_9 s64_9 hbb9_9 (Nat.le_of_ble_eq_true rfl) rfl siz_24 rfl rfl (fun wd10 hX hz hbb9_10 => ?_))
 have hE_10 := hE_9.since hX (fun k e => e ▸ fr_b9)
 have hbb4_10 := hbb4_9.ext hX ne_b4_b9
 have hbb6_10 := hbb6_9.ext hX ne_b6_b9
 have hsx1_10 := SlT.over hsx1_9 hX nb_x1_b9
 have hsx2_10 := SlT.over hsx2_9 hX nb_x2_b9
 have hsx11_10 := SlT.over hsx11_9 hX (fun _ => nbo_x11_b9)
 have hsx12_10 := SlT.over hsx12_9 hX (fun _ => nbo_x12_b9)
 have hox11_10 := OwnT.ext hox11_9 hX (fun k hk e => nbo_x11_b9 (e ▸ hk))
 have hox12_10 := OwnT.ext hox12_9 hX (fun k hk e => nbo_x12_b9 (e ▸ hk))
 clear hX hz hE_9 hbb4_9 hbb6_9 hbb9_9 hsx1_9 hsx2_9 hsx11_9 hsx12_9 hox11_9 hox12_9
 refine tail_put rfl rfl hN_9 hD_9 (by decide) (does_assign (V := Value.bool (true)) rfl (fun a11 hN_11 hD_11 hv hO => ?_))
 have s10_11 := hv
 have s8_11 := (hO 8 rfl).trans s8_9
 have s9_11 := (hO 9 rfl).trans s9_9
 clear hO hv hN_9 hD_9 s8_9 s9_9 s64_9
 refine tail_nil ?_
 refine wp_ret ?_
 refine res_three (V1 := i64 ((k : Nat) : Int)) (V2 := Dg.val ((t.getD k Dg.zero))) (V3 := Value.bool (true)) rfl hD_11 s8_11 (ResIs.cell s9_11 hbb9_10 row_24 rfl rfl) s10_11 ?_
 exact ⟨by show Value.tuple _ = Value.tuple _; rw [ahead_hit hall hk35 hc2], hE_10⟩
 rw [← aheadAt_ints] at hc2
 refine wp_skip ?_
 refine region_lex [] [(65, Pr.ex (i64 ((k + 1 : Nat) : Int)))] 1 hN_8 hD_8 (by kernel_rfl) (by kernel_rfl) ?_ ?_
 refine Asks.cons ?_ (Asks.zero _)
 exact Ask.plain rfl rfl fun aq wq hNq hO hR hT => does_add (a := ((k : Nat) : Int)) (b := ((1 : Nat) : Int)) (r := ((k + 1 : Nat) : Int)) ((hO 27 rfl).trans s27_8) rfl (by omega) (by omega) (by omega) ⟨Ext.refl _, rfl⟩
 intro a12 wd12 hN_12 hD_12 hO hR hA hU
 obtain ⟨t65, _⟩ := hA
 have hE_12 := hE_8.trans hR
 have s1_12 := (hO 1 rfl).trans s1_8
 have s3_12 := (hO 3 rfl).trans s3_8
 have s9_12 := (hO 9 rfl).trans s9_8
 have s11_12 := (hO 11 rfl).trans s11_8
 have s12_12 := (hO 12 rfl).trans s12_8
 have s27_12 := (hO 27 rfl).trans s27_8
 have hbb4_12 := hbb4_8.ext' hR
 have hbb6_12 := hbb6_8.ext' hR
 have hbb9_12 := hbb9_8.ext' hR
 have hsx1_12 := hsx1_8.ext' hR
 have hsx2_12 := hsx2_8.ext' hR
 have hsx11_12 := hsx11_8.ext' hR
 have hsx12_12 := hsx12_8.ext' hR
 have hox11_12 := hox11_8.ext' hR
 have hox12_12 := hox12_8.ext' hR
 have s65_12 : get a12 65 = i64 ((k + 1 : Nat) : Int) := t65
 clear hE_8 hN_8 hD_8 s1_8 s3_8 s9_8 s11_8 s12_8 s13_8 s27_8 s59_8 hbb4_8 hbb6_8 hbb9_8 hsx1_8 hsx2_8 hsx11_8 hsx12_8 hox11_8 hox12_8
 refine tail_put rfl rfl hN_12 hD_12 (by decide) (does_move (V := i64 ((k + 1 : Nat) : Int)) s65_12 (fun a13 hN_13 hD_13 hv hO => ?_))
 have s27_13 := hv
 have s1_13 := (hO 1 rfl).trans s1_12
 have s3_13 := (hO 3 rfl).trans s3_12
 have s9_13 := (hO 9 rfl).trans s9_12
 have s11_13 := (hO 11 rfl).trans s11_12
 have s12_13 := (hO 12 rfl).trans s12_12
 clear hO hv hN_12 hD_12 s1_12 s3_12 s9_12 s11_12 s12_12 s65_12 s27_12
 refine tail_nil ?_
 exact ⟨_, by omega, k + 1, rfl, hN_13, hD_13, s1_13, s3_13, s9_13, s11_13, s12_13, s27_13, hE_12, hbb4_12, hbb6_12, hbb9_12, hsx1_12, hsx2_12, hsx11_12, hsx12_12, hox11_12, nbo_x11_b4, nbo_x11_b6, nbo_x11_b9, hox12_12, nbo_x12_b4, nbo_x12_b6, nbo_x12_b9, by omega, fun j hj => (Nat.lt_succ_iff_lt_or_eq.1 hj).elim (fun h => hall j h) (fun h => h ▸ hc2)⟩
 have hc1 := of_decide_eq_false hc1
 have hk35 : k = 35 := by omega
 subst hk35
 refine wp_exit ?_
 refine wp_seq ?_
 refine region_lex [] [(66, Pr.ex (Dg.val (Dg.zero))), (8, Pr.ex (i64 ((0 : Nat) : Int)))] 2 hN_6 hD_6 (by kernel_rfl) (by kernel_rfl) ?_ ?_
 refine Asks.cons ?_ (Asks.cons ?_ (Asks.zero _))
 exact Ask.plain rfl rfl fun aq wq hNq hO hR hT => does_build (vs := #[]) (V := Dg.val (Dg.zero)) parts0 (by kernel_rfl) ⟨Ext.refl _, rfl⟩
 exact Ask.plain rfl rfl fun aq wq hNq hO hR hT => does_assign (V := i64 ((0 : Nat) : Int)) rfl ⟨Ext.refl _, rfl⟩
 intro a14 wd14 hN_14 hD_14 hO hR hA hU
 obtain ⟨t66, t8, _⟩ := hA
 have hE_14 := hE_6.trans hR
 have s9_14 := (hO 9 rfl).trans s9_6
 have hbb4_14 := hbb4_6.ext' hR
 have hbb6_14 := hbb6_6.ext' hR
 have hbb9_14 := hbb9_6.ext' hR
 have hsx1_14 := hsx1_6.ext' hR
 have hsx2_14 := hsx2_6.ext' hR
 have hsx11_14 := hsx11_6.ext' hR
 have hsx12_14 := hsx12_6.ext' hR
 have hox11_14 := hox11_6.ext' hR
 have hox12_14 := hox12_6.ext' hR
 have s66_14 : get a14 66 = Dg.val (Dg.zero) := t66
 have s8_14 : get a14 8 = i64 ((0 : Nat) : Int) := t8
 clear hE_6 hN_6 hD_6 s1_6 s3_6 s9_6 s11_6 s12_6 s27_6 s28_6 hbb4_6 hbb6_6 hbb9_6 hsx1_6 hsx2_6 hsx11_6 hsx12_6 hox11_6 hox12_6
 refine tail_none rfl rfl (does_storeD (o := 0) (n := 4) (cs' := [w32 (Dg.zero).a, w32 (Dg.zero).b, w32 (Dg.zero).c, w32 (Dg.zero).d]) (V := Dg.val (Dg.zero)) s9_14 s66_14 hbb9_14 (Nat.le_of_ble_eq_true rfl) rfl siz_24 rfl rfl (fun wd15 hX hz hbb9_15 => ?_))
 have hE_15 := hE_14.since hX (fun k e => e ▸ fr_b9)
 have hbb4_15 := hbb4_14.ext hX ne_b4_b9
 have hbb6_15 := hbb6_14.ext hX ne_b6_b9
 have hsx1_15 := SlT.over hsx1_14 hX nb_x1_b9
 have hsx2_15 := SlT.over hsx2_14 hX nb_x2_b9
 have hsx11_15 := SlT.over hsx11_14 hX (fun _ => nbo_x11_b9)
 have hsx12_15 := SlT.over hsx12_14 hX (fun _ => nbo_x12_b9)
 have hox11_15 := OwnT.ext hox11_14 hX (fun k hk e => nbo_x11_b9 (e ▸ hk))
 have hox12_15 := OwnT.ext hox12_14 hX (fun k hk e => nbo_x12_b9 (e ▸ hk))
 clear hX hz hE_14 hbb4_14 hbb6_14 hbb9_14 hsx1_14 hsx2_14 hsx11_14 hsx12_14 hox11_14 hox12_14
 refine tail_put rfl rfl hN_14 hD_14 (by decide) (does_assign (V := Value.bool (false)) rfl (fun a16 hN_16 hD_16 hv hO => ?_))
 have s10_16 := hv
 have s8_16 := (hO 8 rfl).trans s8_14
 have s9_16 := (hO 9 rfl).trans s9_14
 clear hO hv hN_14 hD_14 s8_14 s9_14 s66_14
 refine tail_nil ?_
 refine wp_ret ?_
 refine res_three (V1 := i64 ((0 : Nat) : Int)) (V2 := Dg.val (Dg.zero)) (V3 := Value.bool (false)) rfl hD_16 s8_16 (ResIs.cell s9_16 hbb9_15 row_24 rfl rfl) s10_16 ?_
 exact ⟨by show Value.tuple _ = Value.tuple _; rw [ahead_none hall], hE_15⟩

end Go.Proofs.YtaeohnkfmachfabDoor
