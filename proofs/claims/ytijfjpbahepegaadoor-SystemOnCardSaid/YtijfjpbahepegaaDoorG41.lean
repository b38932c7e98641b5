/- The walks of functions of the program: printed. -/
import Derived.Test.YtijfjpbahepegaaDoorK
import Derived.Test.YtijfjpbahepegaaDoorG3
import Derived.Test.YtijfjpbahepegaaDoorG7
import Derived.Test.YtijfjpbahepegaaDoorG40
import Derived.Test.YtijfjpbahepegaaDoorF0
set_option maxRecDepth 100000
namespace Go.Proofs.YtijfjpbahepegaaDoor
open Go Go.RowKit Sk Sd
theorem halves_ (l : List Dg) (k bk : Nat) (x1 : Value) (w0 : World) (hL : Laid w0) (hx1 : SlT DG 0 0 l x1 w0) (hbk : Has w0 bk 3 [i64 ((k : Nat) : Int)]) (hk : k ≤ l.length) (hn : l.length ≤ 100000) :
    Gives Tryd.prog 50 #[x1, Value.pointer (some ⟨bk, 0, none⟩)] w0 (Pr.ex (twoVal (root (l.take k), root (l.drop k)))) := by
 refine enter (N := 13) Tryd.func50 rfl rfl ?_
 intro a0 hN_0 hD_0 hA
 have s0_0 : get a0 0 = x1 := hA 0 _ rfl
 have s1_0 : get a0 1 = Value.pointer (some ⟨bk, 0, none⟩) := hA 1 _ rfl
 clear hA
 have hE_0 : Ext w0 w0 := Ext.refl w0
 have hsx1_0 := hx1.close
 refine wp_seq ?_
 refine region_lex [3] [(3, Pr.box' w0.heap.size 44 [w32 (Dg.zero).a, w32 (Dg.zero).b, w32 (Dg.zero).c, w32 (Dg.zero).d, w32 (Dg.zero).a, w32 (Dg.zero).b, w32 (Dg.zero).c, w32 (Dg.zero).d])] 1 hN_0 hD_0 (by kernel_rfl) (by kernel_rfl) ?_ ?_
 refine Asks.cons ?_ (Asks.zero _)
 refine Ask.fresh rfl rfl ?_
 intro aq wq hNq hO hR hT
 exact does_alloc zero_44 (fun b w2 he hlo hb => ⟨he, ⟨b, rfl, Nat.le_trans hR.size' hlo, hb⟩, ⟨b, rfl, hlo, hb.lt⟩⟩)
 intro a1 wd1 hN_1 hD_1 hO hR hA hU
 obtain ⟨t3, _⟩ := hA
 have hE_1 := hE_0.trans hR
 have s0_1 := (hO 0 rfl).trans s0_0
 have s1_1 := (hO 1 rfl).trans s1_0
 have hbbk_1 := hbk.ext' hR
 have hsx1_1 := hsx1_0.ext' hR
 obtain ⟨b3, s3_1, lo_b3, hbb3_1⟩ := t3
 have ne_bk_b3 : bk ≠ b3 := fun e => Nat.lt_irrefl _ (Nat.lt_of_lt_of_le hbk.lt (e ▸ lo_b3))
 have nb_x1_b3 := SlT.old hsx1_0 lo_b3
 have fr_b3 : w0.heap.size ≤ b3 := Nat.le_trans hE_0.size' lo_b3
 clear hE_0 hN_0 hD_0 s0_0 s1_0 hbk hsx1_0
 refine tail_nil ?_
 refine wp_seq ?_
 refine region_any [] [(4, Pr.ex (x1)), (5, Pr.ex (i64 ((k : Nat) : Int))), (6, Pr.sl' DG 0 (w0.heap.size + 1) (l.take k)), (7, Pr.ex (Dg.val (root (l.take k)))), (8, Pr.ex (x1)), (9, Pr.ex (i64 ((k : Nat) : Int))), (10, Pr.sl' DG 0 (w0.heap.size + 1) (l.drop k)), (11, Pr.ex (Dg.val (root (l.drop k)))), (12, Pr.ex (Value.agg #[w32 (root (l.take k)).a, w32 (root (l.take k)).b, w32 (root (l.take k)).c, w32 (root (l.take k)).d, w32 (root (l.drop k)).a, w32 (root (l.drop k)).b, w32 (root (l.drop k)).c, w32 (root (l.drop k)).d]))] 9 mixed hN_1 hD_1 (by kernel_rfl) (by kernel_rfl) (by kernel_rfl) ?_ ?_
 refine Asks.cons ?_ (Asks.cons ?_ (Asks.cons ?_ (Asks.cons ?_ (Asks.cons ?_ (Asks.cons ?_ (Asks.cons ?_ (Asks.cons ?_ (Asks.cons ?_ (Asks.zero _)))))))))
 exact Ask.plainD rfl rfl fun aq wq hNq hO hR hT => does_move (V := x1) ((hO 0 rfl).trans s0_1) ⟨Ext.refl _, rfl⟩
 exact Ask.plainD rfl rfl fun aq wq hNq hO hR hT => does_loadD1 (o := 0) (V := i64 ((k : Nat) : Int)) ((hO 1 rfl).trans s1_1) (hbbk_1.ext' hR) rfl one_3 ⟨Ext.refl _, rfl⟩
 exact Ask.plainD rfl rfl fun aq wq hNq hO hR hT => does_sliceHi (T := DG) (xs := l) (k := ((k : Nat) : Int)) sli_41 rfl (SlT.at (hT 4 rfl rfl) (hsx1_1.ext' hR)) (hT 5 rfl rfl) (by omega) (by omega) (fun v h => ⟨Ext.refl _, h⟩)
 exact Ask.plainD rfl rfl fun aq wq hNq hO hR hT => does_ret (vs := #[get aq 6]) call_37 (args1 rfl) rfl ((root_ (l.take k) (get aq 6) wq (hL.ext (hE_1.trans hR)) ((hT 6 rfl rfl).wide (Nat.zero_le _) (.inl rfl)) (by first | (simp only [List.length_take]; omega) | (simp only [List.length_drop]; omega))).mono fun v w2 h => ⟨h.2, h.1⟩)
 exact Ask.plainD rfl rfl fun aq wq hNq hO hR hT => does_move (V := x1) ((hO 0 rfl).trans s0_1) ⟨Ext.refl _, rfl⟩
 exact Ask.plainD rfl rfl fun aq wq hNq hO hR hT => does_loadD1 (o := 0) (V := i64 ((k : Nat) : Int)) ((hO 1 rfl).trans s1_1) (hbbk_1.ext' hR) rfl one_3 ⟨Ext.refl _, rfl⟩
 exact Ask.plainD rfl rfl fun aq wq hNq hO hR hT => does_sliceLo (T := DG) (xs := l) (k := ((k : Nat) : Int)) sli_41 rfl (SlT.at (hT 8 rfl rfl) (hsx1_1.ext' hR)) (hT 9 rfl rfl) (by omega) (by omega) (fun v h => ⟨Ext.refl _, h⟩)
 exact Ask.plainD rfl rfl fun aq wq hNq hO hR hT => does_ret (vs := #[get aq 10]) call_37 (args1 rfl) rfl ((root_ (l.drop k) (get aq 10) wq (hL.ext (hE_1.trans hR)) ((hT 10 rfl rfl).wide (Nat.zero_le _) (.inl rfl)) (by first | (simp only [List.length_take]; omega) | (simp only [List.length_drop]; omega))).mono fun v w2 h => ⟨h.2, h.1⟩)
 exact Ask.plainD rfl rfl fun aq wq hNq hO hR hT => does_build (vs := #[(0, Dg.val (root (l.take k))), (1, Dg.val (root (l.drop k)))]) (V := Value.agg #[w32 (root (l.take k)).a, w32 (root (l.take k)).b, w32 (root (l.take k)).c, w32 (root (l.take k)).d, w32 (root (l.drop k)).a, w32 (root (l.drop k)).b, w32 (root (l.drop k)).c, w32 (root (l.drop k)).d]) (parts2 (hT 7 rfl rfl) (hT 11 rfl rfl)) (by kernel_rfl) ⟨Ext.refl _, rfl⟩
 intro a2 wd2 hN_2 hD_2 hO hR hA hU
 obtain ⟨_, _, _, _, _, _, _, _, t12, _⟩ := hA
 have hE_2 := hE_1.trans hR
 have s3_2 := (hO 3 rfl).trans s3_1
 have hbbk_2 := hbbk_1.ext' hR
 have hbb3_2 := hbb3_1.ext' hR
 have hsx1_2 := hsx1_1.ext' hR
 have s12_2 : get a2 12 = Value.agg #[w32 (root (l.take k)).a, w32 (root (l.take k)).b, w32 (root (l.take k)).c, w32 (root (l.take k)).d, w32 (root (l.drop k)).a, w32 (root (l.drop k)).b, w32 (root (l.drop k)).c, w32 (root (l.drop k)).d] := t12
 clear hE_1 hN_1 hD_1 s0_1 s1_1 s3_1 hbbk_1 hbb3_1 hsx1_1
 refine tail_none rfl rfl (does_storeD (o := 0) (n := 8) (cs' := [w32 (root (l.take k)).a, w32 (root (l.take k)).b, w32 (root (l.take k)).c, w32 (root (l.take k)).d, w32 (root (l.drop k)).a, w32 (root (l.drop k)).b, w32 (root (l.drop k)).c, w32 (root (l.drop k)).d]) (V := Value.agg #[w32 (root (l.take k)).a, w32 (root (l.take k)).b, w32 (root (l.take k)).c, w32 (root (l.take k)).d, w32 (root (l.drop k)).a, w32 (root (l.drop k)).b, w32 (root (l.drop k)).c, w32 (root (l.drop k)).d]) s3_2 s12_2 hbb3_2 (Nat.le_of_ble_eq_true rfl) rfl siz_44 rfl rfl (fun wd3 hX hz hbb3_3 => ?_))
 have hE_3 := hE_2.since hX (fun k e => e ▸ fr_b3)
 have hbbk_3 := hbbk_2.ext hX ne_bk_b3
 have hsx1_3 := SlT.over hsx1_2 hX nb_x1_b3
 clear hX hz hE_2 hbbk_2 hbb3_2 hsx1_2
 refine tail_nil ?_
 refine wp_ret ?_
 refine res_one (V := Value.agg #[w32 (root (l.take k)).a, w32 (root (l.take k)).b, w32 (root (l.take k)).c, w32 (root (l.take k)).d, w32 (root (l.drop k)).a, w32 (root (l.drop k)).b, w32 (root (l.drop k)).c, w32 (root (l.drop k)).d]) rfl hD_2 (ResIs.cell s3_2 hbb3_3 row_44 rfl rfl) ?_
 exact ⟨rfl, hE_3⟩

theorem clash_ (a b : List Dg) (x1 x2 : Value) (w0 : World) (hL : Laid w0) (hx1 : SlT DG 0 0 a x1 w0) (hx2 : SlT DG 0 0 b x2 w0) (hn : a.length ≤ 100000) (hn2 : b.length ≤ 100000) :
    Gives Tryd.prog 23 #[x1, x2] w0 (Pr.ex (Value.tuple #[twoVal (clash a b).1, twoVal (clash a b).2.1, Value.bool (clash a b).2.2])) := by
 refine enter (N := 67) Tryd.func23 rfl rfl ?_
 intro a0 hN_0 hD_0 hA
 have s0_0 : get a0 0 = x1 := hA 0 _ rfl
 have s1_0 : get a0 1 = x2 := hA 1 _ rfl
 clear hA
 have hE_0 : Ext w0 w0 := Ext.refl w0
 have hsx1_0 := hx1.close
 have hsx2_0 := hx2.close
 refine wp_seq ?_
 refine region_lex [4, 5] [(4, Pr.box' w0.heap.size 44 [w32 (Dg.zero).a, w32 (Dg.zero).b, w32 (Dg.zero).c, w32 (Dg.zero).d, w32 (Dg.zero).a, w32 (Dg.zero).b, w32 (Dg.zero).c, w32 (Dg.zero).d]), (5, Pr.box' w0.heap.size 44 [w32 (Dg.zero).a, w32 (Dg.zero).b, w32 (Dg.zero).c, w32 (Dg.zero).d, w32 (Dg.zero).a, w32 (Dg.zero).b, w32 (Dg.zero).c, w32 (Dg.zero).d]), (6, Pr.ex (Value.bool (false)))] 3 hN_0 hD_0 (by kernel_rfl) (by kernel_rfl) ?_ ?_
 refine Asks.cons ?_ (Asks.cons ?_ (Asks.cons ?_ (Asks.zero _)))
 refine Ask.fresh rfl rfl ?_
 intro aq wq hNq hO hR hT
 exact does_alloc zero_44 (fun b w2 he hlo hb => ⟨he, ⟨b, rfl, Nat.le_trans hR.size' hlo, hb⟩, ⟨b, rfl, hlo, hb.lt⟩⟩)
 refine Ask.fresh rfl rfl ?_
 intro aq wq hNq hO hR hT
 exact does_alloc zero_44 (fun b w2 he hlo hb => ⟨he, ⟨b, rfl, Nat.le_trans hR.size' hlo, hb⟩, ⟨b, rfl, hlo, hb.lt⟩⟩)
 exact Ask.plain rfl rfl fun aq wq hNq hO hR hT => does_assign (V := Value.bool (false)) rfl ⟨Ext.refl _, rfl⟩
 intro a1 wd1 hN_1 hD_1 hO hR hA hU
 obtain ⟨t4, t5, _, _⟩ := hA
 have hE_1 := hE_0.trans hR
 have s0_1 := (hO 0 rfl).trans s0_0
 have s1_1 := (hO 1 rfl).trans s1_0
 have hsx1_1 := hsx1_0.ext' hR
 have hsx2_1 := hsx2_0.ext' hR
 obtain ⟨b4, s4_1, lo_b4, hbb4_1⟩ := t4
 have nb_x1_b4 := SlT.old hsx1_0 lo_b4
 have nb_x2_b4 := SlT.old hsx2_0 lo_b4
 have fr_b4 : w0.heap.size ≤ b4 := Nat.le_trans hE_0.size' lo_b4
 obtain ⟨b5, s5_1, lo_b5, hbb5_1⟩ := t5
 have nb_x1_b5 := SlT.old hsx1_0 lo_b5
 have nb_x2_b5 := SlT.old hsx2_0 lo_b5
 have fr_b5 : w0.heap.size ≤ b5 := Nat.le_trans hE_0.size' lo_b5
 obtain ⟨u0, ⟨u1, _⟩⟩ := hU
 have ne_b4_b5 : b4 ≠ b5 := fun e => u0 5 (by decide) (by rw [s4_1, s5_1, e])
 clear hE_0 hN_0 hD_0 s0_0 s1_0 hsx1_0 hsx2_0
 refine tail_nil ?_
 refine wp_seq ?_
 refine wp_seq ?_
 refine region_lex [] [(11, Pr.ex (x1)), (12, Pr.ex (i64 ((a.length : Nat) : Int))), (13, Pr.ex (x2)), (14, Pr.ex (i64 ((b.length : Nat) : Int))), (15, Pr.ex (Value.bool (!decide (((a.length : Nat) : Int) = ((b.length : Nat) : Int))))), (16, Pr.ex (Value.bool (!decide (((a.length : Nat) : Int) = ((b.length : Nat) : Int))))), (17, Pr.ifb (!(!decide (((a.length : Nat) : Int) = ((b.length : Nat) : Int)))) (Pr.ex (x1))), (18, Pr.ifb (!(!decide (((a.length : Nat) : Int) = ((b.length : Nat) : Int)))) (Pr.ex (x2))), (19, Pr.ifb (!(!decide (((a.length : Nat) : Int) = ((b.length : Nat) : Int)))) (Pr.ex (Value.bool (decide (a = b))))), (20, Pr.ex (Value.bool ((!decide (((a.length : Nat) : Int) = ((b.length : Nat) : Int))) || (decide (a = b))))), (21, Pr.ex (Value.bool ((!decide (((a.length : Nat) : Int) = ((b.length : Nat) : Int))) || (decide (a = b))))), (22, Pr.ifb (!((!decide (((a.length : Nat) : Int) = ((b.length : Nat) : Int))) || (decide (a = b)))) (Pr.ex (x1))), (23, Pr.ifb (!((!decide (((a.length : Nat) : Int) = ((b.length : Nat) : Int))) || (decide (a = b)))) (Pr.ex (Dg.val (root a)))), (24, Pr.ifb (!((!decide (((a.length : Nat) : Int) = ((b.length : Nat) : Int))) || (decide (a = b)))) (Pr.ex (x2))), (25, Pr.ifb (!((!decide (((a.length : Nat) : Int) = ((b.length : Nat) : Int))) || (decide (a = b)))) (Pr.ex (Dg.val (root b)))), (26, Pr.ifb (!((!decide (((a.length : Nat) : Int) = ((b.length : Nat) : Int))) || (decide (a = b)))) (Pr.ex (Value.bool (!decide (root a = root b))))), (27, Pr.ex (Value.bool (((!decide (((a.length : Nat) : Int) = ((b.length : Nat) : Int))) || (decide (a = b))) || (!decide (root a = root b)))))] 17 hN_1 hD_1 (by kernel_rfl) (by kernel_rfl) ?_ ?_
 refine Asks.cons ?_ (Asks.cons ?_ (Asks.cons ?_ (Asks.cons ?_ (Asks.cons ?_ (Asks.cons ?_ (Asks.cons ?_ (Asks.cons ?_ (Asks.cons ?_ (Asks.cons ?_ (Asks.cons ?_ (Asks.cons ?_ (Asks.cons ?_ (Asks.cons ?_ (Asks.cons ?_ (Asks.cons ?_ (Asks.cons ?_ (Asks.zero _)))))))))))))))))
 exact Ask.plain rfl rfl fun aq wq hNq hO hR hT => does_move (V := x1) ((hO 0 rfl).trans s0_1) ⟨Ext.refl _, rfl⟩
 exact Ask.plain rfl rfl fun aq wq hNq hO hR hT => does_len (T := DG) (xs := a) sli_41 (SlT.at (hT 11 rfl rfl) (hsx1_1.ext' hR)) ⟨Ext.refl _, rfl⟩
 exact Ask.plain rfl rfl fun aq wq hNq hO hR hT => does_move (V := x2) ((hO 1 rfl).trans s1_1) ⟨Ext.refl _, rfl⟩
 exact Ask.plain rfl rfl fun aq wq hNq hO hR hT => does_len (T := DG) (xs := b) sli_41 (SlT.at (hT 13 rfl rfl) (hsx2_1.ext' hR)) ⟨Ext.refl _, rfl⟩
 exact Ask.plain rfl rfl fun aq wq hNq hO hR hT => does_neq (a := ((a.length : Nat) : Int)) (b := ((b.length : Nat) : Int)) (hT 12 rfl rfl) (hT 14 rfl rfl) ⟨Ext.refl _, rfl⟩
 exact Ask.plain rfl rfl fun aq wq hNq hO hR hT => does_move (V := Value.bool (!decide (((a.length : Nat) : Int) = ((b.length : Nat) : Int)))) (hT 15 rfl rfl) ⟨Ext.refl _, rfl⟩
 refine Ask.guarded (B := !decide (((a.length : Nat) : Int) = ((b.length : Nat) : Int))) (want := false) (t := 16) rfl rfl rfl rfl (by decide) (fun aq wq hO hR hT => hT 16 rfl rfl) (fun hG aq wq hNq hO hR hT => ?_) (fun hno _ => fun hc => absurd (bn hc) hno)
 replace hG := nb hG
 exact does_move (V := x1) ((hO 0 rfl).trans s0_1) ⟨Ext.refl _, fun _ => rfl⟩
 refine Ask.guarded (B := !decide (((a.length : Nat) : Int) = ((b.length : Nat) : Int))) (want := false) (t := 16) rfl rfl rfl rfl (by decide) (fun aq wq hO hR hT => hT 16 rfl rfl) (fun hG aq wq hNq hO hR hT => ?_) (fun hno _ => fun hc => absurd (bn hc) hno)
 replace hG := nb hG
 exact does_move (V := x2) ((hO 1 rfl).trans s1_1) ⟨Ext.refl _, fun _ => rfl⟩
 refine Ask.guarded (B := !decide (((a.length : Nat) : Int) = ((b.length : Nat) : Int))) (want := false) (t := 16) rfl rfl rfl rfl (by decide) (fun aq wq hO hR hT => hT 16 rfl rfl) (fun hG aq wq hNq hO hR hT => ?_) (fun hno _ => fun hc => absurd (bn hc) hno)
 replace hG := nb hG
 exact does_ret (vs := #[x1, x2]) call_48 (args2 (hT 17 rfl rfl hG) (hT 18 rfl rfl hG)) rfl ((equalD (a) (b) (x1) (x2) wq ((hsx1_1.ext' hR).wide (Nat.zero_le _) (.inl rfl)) ((hsx2_1.ext' hR).wide (Nat.zero_le _) (.inl rfl)) (by first | omega | (simp only [List.length_take]; omega))).mono fun v w2 h => ⟨h.2, fun _ => h.1⟩)
 exact Ask.plain rfl rfl fun aq wq hNq hO hR hT => does_or (B := !decide (((a.length : Nat) : Int) = ((b.length : Nat) : Int))) (X := decide (a = b)) (hT 16 rfl rfl) rfl (fun hB => (hT 19 rfl rfl (nb hB))) ⟨Ext.refl _, rfl⟩
 exact Ask.plain rfl rfl fun aq wq hNq hO hR hT => does_move (V := Value.bool ((!decide (((a.length : Nat) : Int) = ((b.length : Nat) : Int))) || (decide (a = b)))) (hT 20 rfl rfl) ⟨Ext.refl _, rfl⟩
 refine Ask.guarded (B := (!decide (((a.length : Nat) : Int) = ((b.length : Nat) : Int))) || (decide (a = b))) (want := false) (t := 21) rfl rfl rfl rfl (by decide) (fun aq wq hO hR hT => hT 21 rfl rfl) (fun hG aq wq hNq hO hR hT => ?_) (fun hno _ => fun hc => absurd (bn hc) hno)
 replace hG := nb hG
 exact does_move (V := x1) ((hO 0 rfl).trans s0_1) ⟨Ext.refl _, fun _ => rfl⟩
 refine Ask.guarded (B := (!decide (((a.length : Nat) : Int) = ((b.length : Nat) : Int))) || (decide (a = b))) (want := false) (t := 21) rfl rfl rfl rfl (by decide) (fun aq wq hO hR hT => hT 21 rfl rfl) (fun hG aq wq hNq hO hR hT => ?_) (fun hno _ => fun hc => absurd (bn hc) hno)
 replace hG := nb hG
 exact does_ret (vs := #[x1]) call_37 (args1 (hT 22 rfl rfl hG)) rfl ((root_ (a) (x1) wq (hL.ext (hE_1.trans hR)) ((hsx1_1.ext' hR).wide (Nat.zero_le _) (.inl rfl)) (by omega)).mono fun v w2 h => ⟨h.2, fun _ => h.1⟩)
 refine Ask.guarded (B := (!decide (((a.length : Nat) : Int) = ((b.length : Nat) : Int))) || (decide (a = b))) (want := false) (t := 21) rfl rfl rfl rfl (by decide) (fun aq wq hO hR hT => hT 21 rfl rfl) (fun hG aq wq hNq hO hR hT => ?_) (fun hno _ => fun hc => absurd (bn hc) hno)
 replace hG := nb hG
 exact does_move (V := x2) ((hO 1 rfl).trans s1_1) ⟨Ext.refl _, fun _ => rfl⟩
 refine Ask.guarded (B := (!decide (((a.length : Nat) : Int) = ((b.length : Nat) : Int))) || (decide (a = b))) (want := false) (t := 21) rfl rfl rfl rfl (by decide) (fun aq wq hO hR hT => hT 21 rfl rfl) (fun hG aq wq hNq hO hR hT => ?_) (fun hno _ => fun hc => absurd (bn hc) hno)
 replace hG := nb hG
 exact does_ret (vs := #[x2]) call_37 (args1 (hT 24 rfl rfl hG)) rfl ((root_ (b) (x2) wq (hL.ext (hE_1.trans hR)) ((hsx2_1.ext' hR).wide (Nat.zero_le _) (.inl rfl)) (by omega)).mono fun v w2 h => ⟨h.2, fun _ => h.1⟩)
 refine Ask.guarded (B := (!decide (((a.length : Nat) : Int) = ((b.length : Nat) : Int))) || (decide (a = b))) (want := false) (t := 21) rfl rfl rfl rfl (by decide) (fun aq wq hO hR hT => hT 21 rfl rfl) (fun hG aq wq hNq hO hR hT => ?_) (fun hno _ => fun hc => absurd (bn hc) hno)
 replace hG := nb hG
 exact does_neT (a := root a) (b := root b) eq_27 (hT 23 rfl rfl hG) (hT 25 rfl rfl hG) ⟨Ext.refl _, fun _ => rfl⟩
 exact Ask.plain rfl rfl fun aq wq hNq hO hR hT => does_or (B := (!decide (((a.length : Nat) : Int) = ((b.length : Nat) : Int))) || (decide (a = b))) (X := !decide (root a = root b)) (hT 21 rfl rfl) rfl (fun hB => (hT 26 rfl rfl (nb hB))) ⟨Ext.refl _, rfl⟩
 intro a2 wd2 hN_2 hD_2 hO hR hA hU
 obtain ⟨_, _, _, _, _, _, _, _, _, _, _, _, _, _, _, _, t27, _⟩ := hA
 have hE_2 := hE_1.trans hR
 have s0_2 := (hO 0 rfl).trans s0_1
 have s1_2 := (hO 1 rfl).trans s1_1
 have s4_2 := (hO 4 rfl).trans s4_1
 have s5_2 := (hO 5 rfl).trans s5_1
 have hbb4_2 := hbb4_1.ext' hR
 have hbb5_2 := hbb5_1.ext' hR
 have hsx1_2 := hsx1_1.ext' hR
 have hsx2_2 := hsx2_1.ext' hR
 have s27_2 : get a2 27 = Value.bool (((!decide (((a.length : Nat) : Int) = ((b.length : Nat) : Int))) || (decide (a = b))) || (!decide (root a = root b))) := t27
 clear hE_1 hN_1 hD_1 s0_1 s1_1 s4_1 s5_1 hbb4_1 hbb5_1 hsx1_1 hsx2_1
 refine tail_nil ?_
 refine wp_if (B := ((!decide (((a.length : Nat) : Int) = ((b.length : Nat) : Int))) || (decide (a = b))) || (!decide (root a = root b))) s27_2 (fun hc0 => ?_) (fun hc0 => ?_)
 refine wp_seq ?_
 refine region_lex [] [(28, Pr.ex (Value.agg #[w32 (Dg.zero).a, w32 (Dg.zero).b, w32 (Dg.zero).c, w32 (Dg.zero).d, w32 (Dg.zero).a, w32 (Dg.zero).b, w32 (Dg.zero).c, w32 (Dg.zero).d])), (29, Pr.ex (Value.agg #[w32 (Dg.zero).a, w32 (Dg.zero).b, w32 (Dg.zero).c, w32 (Dg.zero).d, w32 (Dg.zero).a, w32 (Dg.zero).b, w32 (Dg.zero).c, w32 (Dg.zero).d]))] 2 hN_2 hD_2 (by kernel_rfl) (by kernel_rfl) ?_ ?_
 refine Asks.cons ?_ (Asks.cons ?_ (Asks.zero _))
 exact Ask.plain rfl rfl fun aq wq hNq hO hR hT => does_build (vs := #[]) (V := Value.agg #[w32 (Dg.zero).a, w32 (Dg.zero).b, w32 (Dg.zero).c, w32 (Dg.zero).d, w32 (Dg.zero).a, w32 (Dg.zero).b, w32 (Dg.zero).c, w32 (Dg.zero).d]) parts0 (by kernel_rfl) ⟨Ext.refl _, rfl⟩
 exact Ask.plain rfl rfl fun aq wq hNq hO hR hT => does_build (vs := #[]) (V := Value.agg #[w32 (Dg.zero).a, w32 (Dg.zero).b, w32 (Dg.zero).c, w32 (Dg.zero).d, w32 (Dg.zero).a, w32 (Dg.zero).b, w32 (Dg.zero).c, w32 (Dg.zero).d]) parts0 (by kernel_rfl) ⟨Ext.refl _, rfl⟩
 intro a3 wd3 hN_3 hD_3 hO hR hA hU
 obtain ⟨t28, t29, _⟩ := hA
 have hE_3 := hE_2.trans hR
 have s4_3 := (hO 4 rfl).trans s4_2
 have s5_3 := (hO 5 rfl).trans s5_2
 have hbb4_3 := hbb4_2.ext' hR
 have hbb5_3 := hbb5_2.ext' hR
 have hsx1_3 := hsx1_2.ext' hR
 have hsx2_3 := hsx2_2.ext' hR
 have s28_3 : get a3 28 = Value.agg #[w32 (Dg.zero).a, w32 (Dg.zero).b, w32 (Dg.zero).c, w32 (Dg.zero).d, w32 (Dg.zero).a, w32 (Dg.zero).b, w32 (Dg.zero).c, w32 (Dg.zero).d] := t28
 have s29_3 : get a3 29 = Value.agg #[w32 (Dg.zero).a, w32 (Dg.zero).b, w32 (Dg.zero).c, w32 (Dg.zero).d, w32 (Dg.zero).a, w32 (Dg.zero).b, w32 (Dg.zero).c, w32 (Dg.zero).d] := t29
 clear hE_2 hN_2 hD_2 s0_2 s1_2 s4_2 s5_2 s27_2 hbb4_2 hbb5_2 hsx1_2 hsx2_2
 refine tail_none rfl rfl (does_storeD (o := 0) (n := 8) (cs' := [w32 (Dg.zero).a, w32 (Dg.zero).b, w32 (Dg.zero).c, w32 (Dg.zero).d, w32 (Dg.zero).a, w32 (Dg.zero).b, w32 (Dg.zero).c, w32 (Dg.zero).d]) (V := Value.agg #[w32 (Dg.zero).a, w32 (Dg.zero).b, w32 (Dg.zero).c, w32 (Dg.zero).d, w32 (Dg.zero).a, w32 (Dg.zero).b, w32 (Dg.zero).c, w32 (Dg.zero).d]) s4_3 s28_3 hbb4_3 (Nat.le_of_ble_eq_true rfl) rfl siz_44 rfl rfl (fun wd4 hX hz hbb4_4 => ?_))
 have hE_4 := hE_3.since hX (fun k e => e ▸ fr_b4)
 have hbb5_4 := hbb5_3.ext hX ne_b4_b5.symm
 have hsx1_4 := SlT.over hsx1_3 hX nb_x1_b4
 have hsx2_4 := SlT.over hsx2_3 hX nb_x2_b4
 clear hX hz hE_3 hbb4_3 hbb5_3 hsx1_3 hsx2_3
 refine tail_none rfl rfl (does_storeD (o := 0) (n := 8) (cs' := [w32 (Dg.zero).a, w32 (Dg.zero).b, w32 (Dg.zero).c, w32 (Dg.zero).d, w32 (Dg.zero).a, w32 (Dg.zero).b, w32 (Dg.zero).c, w32 (Dg.zero).d]) (V := Value.agg #[w32 (Dg.zero).a, w32 (Dg.zero).b, w32 (Dg.zero).c, w32 (Dg.zero).d, w32 (Dg.zero).a, w32 (Dg.zero).b, w32 (Dg.zero).c, w32 (Dg.zero).d]) s5_3 s29_3 hbb5_4 (Nat.le_of_ble_eq_true rfl) rfl siz_44 rfl rfl (fun wd5 hX hz hbb5_5 => ?_))
 have hE_5 := hE_4.since hX (fun k e => e ▸ fr_b5)
 have hbb4_5 := hbb4_4.ext hX ne_b4_b5
 have hsx1_5 := SlT.over hsx1_4 hX nb_x1_b5
 have hsx2_5 := SlT.over hsx2_4 hX nb_x2_b5
 clear hX hz hE_4 hbb4_4 hbb5_4 hsx1_4 hsx2_4
 refine tail_put rfl rfl hN_3 hD_3 (by decide) (does_assign (V := Value.bool (false)) rfl (fun a6 hN_6 hD_6 hv hO => ?_))
 have s6_6 := hv
 have s4_6 := (hO 4 rfl).trans s4_3
 have s5_6 := (hO 5 rfl).trans s5_3
 clear hO hv hN_3 hD_3 s4_3 s5_3 s28_3 s29_3
 refine tail_nil ?_
 refine wp_ret ?_
 refine res_three (V1 := Value.agg #[w32 (Dg.zero).a, w32 (Dg.zero).b, w32 (Dg.zero).c, w32 (Dg.zero).d, w32 (Dg.zero).a, w32 (Dg.zero).b, w32 (Dg.zero).c, w32 (Dg.zero).d]) (V2 := Value.agg #[w32 (Dg.zero).a, w32 (Dg.zero).b, w32 (Dg.zero).c, w32 (Dg.zero).d, w32 (Dg.zero).a, w32 (Dg.zero).b, w32 (Dg.zero).c, w32 (Dg.zero).d]) (V3 := Value.bool (false)) rfl hD_6 (ResIs.cell s4_6 hbb4_5 row_44 rfl rfl) (ResIs.cell s5_6 hbb5_5 row_44 rfl rfl) s6_6 ?_
 obtain ⟨e1, e2, e3⟩ := prods (clash_no (clashT hc0))
 exact ⟨by show Value.tuple _ = Value.tuple _; rw [e1, e2, e3]; rfl, hE_5⟩
 have hpq0 := clashF hc0
 refine wp_skip ?_
 refine wp_block ?_
 refine loop_g (fun mz az wz => ∃ p : List Dg, ∃ q : List Dg, ∃ xa : Value, ∃ xb : Value, mz = p.length ∧ (az.tmps.size = 67) ∧ (az.defers = []) ∧ (get az 0 = xa) ∧ (get az 1 = xb) ∧ (get az 4 = Value.pointer (some ⟨b4, 0, none⟩)) ∧ (get az 5 = Value.pointer (some ⟨b5, 0, none⟩)) ∧ (Ext w0 wz) ∧ (Has wz b4 44 [w32 (Dg.zero).a, w32 (Dg.zero).b, w32 (Dg.zero).c, w32 (Dg.zero).d, w32 (Dg.zero).a, w32 (Dg.zero).b, w32 (Dg.zero).c, w32 (Dg.zero).d]) ∧ (Has wz b5 44 [w32 (Dg.zero).a, w32 (Dg.zero).b, w32 (Dg.zero).c, w32 (Dg.zero).d, w32 (Dg.zero).a, w32 (Dg.zero).b, w32 (Dg.zero).c, w32 (Dg.zero).d]) ∧ (SlT DG 0 (w0.heap.size + 1) (a) x1 wz) ∧ (SlT DG 0 (w0.heap.size + 1) (b) x2 wz) ∧ (SlT DG 0 (w0.heap.size + 1) (p) xa wz) ∧ (SlT DG 0 (w0.heap.size + 1) (q) xb wz) ∧ (clash a b = clash p q) ∧ (p.length = q.length ∧ p ≠ q ∧ root p = root q) ∧ (p.length ≤ a.length)) ?_ ?_
 exact ⟨_, a, b, x1, x2, rfl, hN_2, hD_2, s0_2, s1_2, s4_2, s5_2, hE_2, hbb4_2, hbb5_2, hsx1_2, hsx2_2, hsx1_2, hsx2_2, rfl, hpq0, Nat.le_refl _⟩
 rintro mz a7 wd7 ⟨p, q, xa, xb, rfl, hN_7, hD_7, s0_7, s1_7, s4_7, s5_7, hE_7, hbb4_7, hbb5_7, hsx1_7, hsx2_7, hsxa_7, hsxb_7, hcl, hpq, hpn⟩
 have h2 := unlike_two hpq.1 hpq.2.1 hpq.2.2
 have hh := half_lt h2
 have hp := half_pos p.length
 have hql := hpq.1
 refine wp_block ?_
 refine wp_seq ?_
 refine region_lex [7] [(30, Pr.ex (xa)), (31, Pr.ex (i64 ((p.length : Nat) : Int))), (32, Pr.ex (i64 ((half p.length : Nat) : Int))), (7, Pr.box' wd7.heap.size 3 [i64 ((0 : Nat) : Int)])] 4 hN_7 hD_7 (by kernel_rfl) (by kernel_rfl) ?_ ?_
 refine Asks.cons ?_ (Asks.cons ?_ (Asks.cons ?_ (Asks.cons ?_ (Asks.zero _))))
 exact Ask.plain rfl rfl fun aq wq hNq hO hR hT => does_move (V := xa) ((hO 0 rfl).trans s0_7) ⟨Ext.refl _, rfl⟩
 exact Ask.plain rfl rfl fun aq wq hNq hO hR hT => does_len (T := DG) (xs := p) sli_41 (SlT.at (hT 30 rfl rfl) (hsxa_7.ext' hR)) ⟨Ext.refl _, rfl⟩
 exact Ask.plain rfl rfl fun aq wq hNq hO hR hT => does_ret (vs := #[i64 ((p.length : Nat) : Int)]) call_49 (args1 (hT 31 rfl rfl)) rfl ((half_ (p.length) wq (by omega) (by omega)).mono fun v w2 h => ⟨h.2, h.1⟩)
 refine Ask.fresh rfl rfl ?_
 intro aq wq hNq hO hR hT
 exact does_alloc zero_3 (fun b w2 he hlo hb => ⟨he, ⟨b, rfl, Nat.le_trans hR.size' hlo, hb⟩, ⟨b, rfl, hlo, hb.lt⟩⟩)
 intro a8 wd8 hN_8 hD_8 hO hR hA hU
 obtain ⟨_, _, t32, t7, _⟩ := hA
 have hE_8 := hE_7.trans hR
 have s0_8 := (hO 0 rfl).trans s0_7
 have s1_8 := (hO 1 rfl).trans s1_7
 have s4_8 := (hO 4 rfl).trans s4_7
 have s5_8 := (hO 5 rfl).trans s5_7
 have hbb4_8 := hbb4_7.ext' hR
 have hbb5_8 := hbb5_7.ext' hR
 have hsx1_8 := hsx1_7.ext' hR
 have hsx2_8 := hsx2_7.ext' hR
 have hsxa_8 := hsxa_7.ext' hR
 have hsxb_8 := hsxb_7.ext' hR
 have s32_8 : get a8 32 = i64 ((half p.length : Nat) : Int) := t32
 obtain ⟨b7, s7_8, lo_b7, hbb7_8⟩ := t7
 have ne_b4_b7 : b4 ≠ b7 := fun e => Nat.lt_irrefl _ (Nat.lt_of_lt_of_le hbb4_7.lt (e ▸ lo_b7))
 have ne_b5_b7 : b5 ≠ b7 := fun e => Nat.lt_irrefl _ (Nat.lt_of_lt_of_le hbb5_7.lt (e ▸ lo_b7))
 have nb_x1_b7 := SlT.old hsx1_7 lo_b7
 have nb_x2_b7 := SlT.old hsx2_7 lo_b7
 have nb_xa_b7 := SlT.old hsxa_7 lo_b7
 have nb_xb_b7 := SlT.old hsxb_7 lo_b7
 have fr_b7 : w0.heap.size ≤ b7 := Nat.le_trans hE_7.size' lo_b7
 clear hE_7 hN_7 hD_7 s0_7 s1_7 s4_7 s5_7 hbb4_7 hbb5_7 hsx1_7 hsx2_7 hsxa_7 hsxb_7
 refine tail_none rfl rfl (does_storeD (o := 0) (n := 1) (cs' := [i64 ((half p.length : Nat) : Int)]) (V := i64 ((half p.length : Nat) : Int)) s7_8 s32_8 hbb7_8 (Nat.le_of_ble_eq_true rfl) rfl siz_3 rfl rfl (fun wd9 hX hz hbb7_9 => ?_))
 have hE_9 := hE_8.since hX (fun k e => e ▸ fr_b7)
 have hbb4_9 := hbb4_8.ext hX ne_b4_b7
 have hbb5_9 := hbb5_8.ext hX ne_b5_b7
 have hsx1_9 := SlT.over hsx1_8 hX nb_x1_b7
 have hsx2_9 := SlT.over hsx2_8 hX nb_x2_b7
 have hsxa_9 := SlT.over hsxa_8 hX nb_xa_b7
 have hsxb_9 := SlT.over hsxb_8 hX nb_xb_b7
 clear hX hz hE_8 hbb4_8 hbb5_8 hbb7_8 hsx1_8 hsx2_8 hsxa_8 hsxb_8
 refine tail_nil ?_
 refine wp_seq ?_
 refine region_lex [] [(33, Pr.ex (Value.func (.func 50) #[] #[Value.pointer (some ⟨b7, 0, none⟩)])), (8, Pr.ex (Value.func (.func 50) #[] #[Value.pointer (some ⟨b7, 0, none⟩)]))] 2 hN_8 hD_8 (by kernel_rfl) (by kernel_rfl) ?_ ?_
 refine Asks.cons ?_ (Asks.cons ?_ (Asks.zero _))
 exact Ask.plain rfl rfl fun aq wq hNq hO hR hT => does_makeFunc (vs := #[Value.pointer (some ⟨b7, 0, none⟩)]) (args1 ((hO 7 rfl).trans s7_8)) ⟨Ext.refl _, rfl⟩
 exact Ask.plain rfl rfl fun aq wq hNq hO hR hT => does_assign (V := Value.func (.func 50) #[] #[Value.pointer (some ⟨b7, 0, none⟩)]) (hT 33 rfl rfl) ⟨Ext.refl _, rfl⟩
 intro a10 wd10 hN_10 hD_10 hO hR hA hU
 obtain ⟨_, t8, _⟩ := hA
 have hE_10 := hE_9.trans hR
 have s0_10 := (hO 0 rfl).trans s0_8
 have s1_10 := (hO 1 rfl).trans s1_8
 have s4_10 := (hO 4 rfl).trans s4_8
 have s5_10 := (hO 5 rfl).trans s5_8
 have s7_10 := (hO 7 rfl).trans s7_8
 have hbb4_10 := hbb4_9.ext' hR
 have hbb5_10 := hbb5_9.ext' hR
 have hbb7_10 := hbb7_9.ext' hR
 have hsx1_10 := hsx1_9.ext' hR
 have hsx2_10 := hsx2_9.ext' hR
 have hsxa_10 := hsxa_9.ext' hR
 have hsxb_10 := hsxb_9.ext' hR
 have s8_10 : get a10 8 = Value.func (.func 50) #[] #[Value.pointer (some ⟨b7, 0, none⟩)] := t8
 clear hE_9 hN_8 hD_8 s0_8 s1_8 s4_8 s5_8 s7_8 s32_8 hbb4_9 hbb5_9 hbb7_9 hsx1_9 hsx2_9 hsxa_9 hsxb_9
 refine tail_nil ?_
 refine wp_seq ?_
 refine region_lex [9, 10] [(34, Pr.ex (Value.func (.func 50) #[] #[Value.pointer (some ⟨b7, 0, none⟩)])), (35, Pr.ex (xa)), (36, Pr.ex (Value.agg #[w32 (root (p.take (half p.length))).a, w32 (root (p.take (half p.length))).b, w32 (root (p.take (half p.length))).c, w32 (root (p.take (half p.length))).d, w32 (root (p.drop (half p.length))).a, w32 (root (p.drop (half p.length))).b, w32 (root (p.drop (half p.length))).c, w32 (root (p.drop (half p.length))).d])), (37, Pr.ex (Value.func (.func 50) #[] #[Value.pointer (some ⟨b7, 0, none⟩)])), (38, Pr.ex (xb)), (39, Pr.ex (Value.agg #[w32 (root (q.take (half p.length))).a, w32 (root (q.take (half p.length))).b, w32 (root (q.take (half p.length))).c, w32 (root (q.take (half p.length))).d, w32 (root (q.drop (half p.length))).a, w32 (root (q.drop (half p.length))).b, w32 (root (q.drop (half p.length))).c, w32 (root (q.drop (half p.length))).d])), (9, Pr.box' wd10.heap.size 44 [w32 (Dg.zero).a, w32 (Dg.zero).b, w32 (Dg.zero).c, w32 (Dg.zero).d, w32 (Dg.zero).a, w32 (Dg.zero).b, w32 (Dg.zero).c, w32 (Dg.zero).d]), (10, Pr.box' wd10.heap.size 44 [w32 (Dg.zero).a, w32 (Dg.zero).b, w32 (Dg.zero).c, w32 (Dg.zero).d, w32 (Dg.zero).a, w32 (Dg.zero).b, w32 (Dg.zero).c, w32 (Dg.zero).d])] 8 hN_10 hD_10 (by kernel_rfl) (by kernel_rfl) ?_ ?_
 refine Asks.cons ?_ (Asks.cons ?_ (Asks.cons ?_ (Asks.cons ?_ (Asks.cons ?_ (Asks.cons ?_ (Asks.cons ?_ (Asks.cons ?_ (Asks.zero _))))))))
 exact Ask.plain rfl rfl fun aq wq hNq hO hR hT => does_move (V := Value.func (.func 50) #[] #[Value.pointer (some ⟨b7, 0, none⟩)]) ((hO 8 rfl).trans s8_10) ⟨Ext.refl _, rfl⟩
 exact Ask.plain rfl rfl fun aq wq hNq hO hR hT => does_move (V := xa) ((hO 0 rfl).trans s0_10) ⟨Ext.refl _, rfl⟩
 exact Ask.plain rfl rfl fun aq wq hNq hO hR hT => does_retv (vs := #[xa]) (cap := #[Value.pointer (some ⟨b7, 0, none⟩)]) call_50 (args1 (hT 35 rfl rfl)) (hT 34 rfl rfl) ((halves_ p (half p.length) b7 (xa) wq (hL.ext (hE_10.trans hR)) ((hsxa_10.ext' hR).wide (Nat.zero_le _) (.inl rfl)) (hbb7_10.ext' hR) (by omega) (by omega)).mono fun v w2 h => ⟨h.2, h.1⟩)
 exact Ask.plain rfl rfl fun aq wq hNq hO hR hT => does_move (V := Value.func (.func 50) #[] #[Value.pointer (some ⟨b7, 0, none⟩)]) ((hO 8 rfl).trans s8_10) ⟨Ext.refl _, rfl⟩
 exact Ask.plain rfl rfl fun aq wq hNq hO hR hT => does_move (V := xb) ((hO 1 rfl).trans s1_10) ⟨Ext.refl _, rfl⟩
 exact Ask.plain rfl rfl fun aq wq hNq hO hR hT => does_retv (vs := #[xb]) (cap := #[Value.pointer (some ⟨b7, 0, none⟩)]) call_50 (args1 (hT 38 rfl rfl)) (hT 37 rfl rfl) ((halves_ q (half p.length) b7 (xb) wq (hL.ext (hE_10.trans hR)) ((hsxb_10.ext' hR).wide (Nat.zero_le _) (.inl rfl)) (hbb7_10.ext' hR) (by omega) (by omega)).mono fun v w2 h => ⟨h.2, h.1⟩)
 refine Ask.fresh rfl rfl ?_
 intro aq wq hNq hO hR hT
 exact does_alloc zero_44 (fun b w2 he hlo hb => ⟨he, ⟨b, rfl, Nat.le_trans hR.size' hlo, hb⟩, ⟨b, rfl, hlo, hb.lt⟩⟩)
 refine Ask.fresh rfl rfl ?_
 intro aq wq hNq hO hR hT
 exact does_alloc zero_44 (fun b w2 he hlo hb => ⟨he, ⟨b, rfl, Nat.le_trans hR.size' hlo, hb⟩, ⟨b, rfl, hlo, hb.lt⟩⟩)
 intro a11 wd11 hN_11 hD_11 hO hR hA hU
 obtain ⟨_, _, t36, _, _, t39, t9, t10, _⟩ := hA
 have hE_11 := hE_10.trans hR
 have s0_11 := (hO 0 rfl).trans s0_10
 have s1_11 := (hO 1 rfl).trans s1_10
 have s4_11 := (hO 4 rfl).trans s4_10
 have s5_11 := (hO 5 rfl).trans s5_10
 have s7_11 := (hO 7 rfl).trans s7_10
 have hbb4_11 := hbb4_10.ext' hR
 have hbb5_11 := hbb5_10.ext' hR
 have hbb7_11 := hbb7_10.ext' hR
 have hsx1_11 := hsx1_10.ext' hR
 have hsx2_11 := hsx2_10.ext' hR
 have hsxa_11 := hsxa_10.ext' hR
 have hsxb_11 := hsxb_10.ext' hR
 have s36_11 : get a11 36 = Value.agg #[w32 (root (p.take (half p.length))).a, w32 (root (p.take (half p.length))).b, w32 (root (p.take (half p.length))).c, w32 (root (p.take (half p.length))).d, w32 (root (p.drop (half p.length))).a, w32 (root (p.drop (half p.length))).b, w32 (root (p.drop (half p.length))).c, w32 (root (p.drop (half p.length))).d] := t36
 have s39_11 : get a11 39 = Value.agg #[w32 (root (q.take (half p.length))).a, w32 (root (q.take (half p.length))).b, w32 (root (q.take (half p.length))).c, w32 (root (q.take (half p.length))).d, w32 (root (q.drop (half p.length))).a, w32 (root (q.drop (half p.length))).b, w32 (root (q.drop (half p.length))).c, w32 (root (q.drop (half p.length))).d] := t39
 obtain ⟨b9, s9_11, lo_b9, hbb9_11⟩ := t9
 have ne_b4_b9 : b4 ≠ b9 := fun e => Nat.lt_irrefl _ (Nat.lt_of_lt_of_le hbb4_10.lt (e ▸ lo_b9))
 have ne_b5_b9 : b5 ≠ b9 := fun e => Nat.lt_irrefl _ (Nat.lt_of_lt_of_le hbb5_10.lt (e ▸ lo_b9))
 have ne_b7_b9 : b7 ≠ b9 := fun e => Nat.lt_irrefl _ (Nat.lt_of_lt_of_le hbb7_10.lt (e ▸ lo_b9))
 have nb_x1_b9 := SlT.old hsx1_10 lo_b9
 have nb_x2_b9 := SlT.old hsx2_10 lo_b9
 have nb_xa_b9 := SlT.old hsxa_10 lo_b9
 have nb_xb_b9 := SlT.old hsxb_10 lo_b9
 have fr_b9 : w0.heap.size ≤ b9 := Nat.le_trans hE_10.size' lo_b9
 obtain ⟨b10, s10_11, lo_b10, hbb10_11⟩ := t10
 have ne_b4_b10 : b4 ≠ b10 := fun e => Nat.lt_irrefl _ (Nat.lt_of_lt_of_le hbb4_10.lt (e ▸ lo_b10))
 have ne_b5_b10 : b5 ≠ b10 := fun e => Nat.lt_irrefl _ (Nat.lt_of_lt_of_le hbb5_10.lt (e ▸ lo_b10))
 have ne_b7_b10 : b7 ≠ b10 := fun e => Nat.lt_irrefl _ (Nat.lt_of_lt_of_le hbb7_10.lt (e ▸ lo_b10))
 have nb_x1_b10 := SlT.old hsx1_10 lo_b10
 have nb_x2_b10 := SlT.old hsx2_10 lo_b10
 have nb_xa_b10 := SlT.old hsxa_10 lo_b10
 have nb_xb_b10 := SlT.old hsxb_10 lo_b10
 have fr_b10 : w0.heap.size ≤ b10 := Nat.le_trans hE_10.size' lo_b10
 obtain ⟨u0, ⟨u1, _⟩⟩ := hU
 have ne_b9_b10 : b9 ≠ b10 := fun e => u0 10 (by decide) (by rw [s9_11, s10_11, e])
 clear hE_10 hN_10 hD_10 s0_10 s1_10 s4_10 s5_10 s7_10 s8_10 hbb4_10 hbb5_10 hbb7_10 hsx1_10 hsx2_10 hsxa_10 hsxb_10
 refine tail_none rfl rfl (does_storeD (o := 0) (n := 8) (cs' := [w32 (root (p.take (half p.length))).a, w32 (root (p.take (half p.length))).b, w32 (root (p.take (half p.length))).c, w32 (root (p.take (half p.length))).d, w32 (root (p.drop (half p.length))).a, w32 (root (p.drop (half p.length))).b, w32 (root (p.drop (half p.length))).c, w32 (root (p.drop (half p.length))).d]) (V := Value.agg #[w32 (root (p.take (half p.length))).a, w32 (root (p.take (half p.length))).b, w32 (root (p.take (half p.length))).c, w32 (root (p.take (half p.length))).d, w32 (root (p.drop (half p.length))).a, w32 (root (p.drop (half p.length))).b, w32 (root (p.drop (half p.length))).c, w32 (root (p.drop (half p.length))).d]) s9_11 s36_11 hbb9_11 (Nat.le_of_ble_eq_true rfl) rfl siz_44 rfl rfl (fun wd12 hX hz hbb9_12 => ?_))
 have hE_12 := hE_11.since hX (fun k e => e ▸ fr_b9)
 have hbb4_12 := hbb4_11.ext hX ne_b4_b9
 have hbb5_12 := hbb5_11.ext hX ne_b5_b9
 have hbb7_12 := hbb7_11.ext hX ne_b7_b9
 have hbb10_12 := hbb10_11.ext hX ne_b9_b10.symm
 have hsx1_12 := SlT.over hsx1_11 hX nb_x1_b9
 have hsx2_12 := SlT.over hsx2_11 hX nb_x2_b9
 have hsxa_12 := SlT.over hsxa_11 hX nb_xa_b9
 have hsxb_12 := SlT.over hsxb_11 hX nb_xb_b9
 clear hX hz hE_11 hbb4_11 hbb5_11 hbb7_11 hbb9_11 hbb10_11 hsx1_11 hsx2_11 hsxa_11 hsxb_11
 refine tail_none rfl rfl (does_storeD (o := 0) (n := 8) (cs' := [w32 (root (q.take (half p.length))).a, w32 (root (q.take (half p.length))).b, w32 (root (q.take (half p.length))).c, w32 (root (q.take (half p.length))).d, w32 (root (q.drop (half p.length))).a, w32 (root (q.drop (half p.length))).b, w32 (root (q.drop (half p.length))).c, w32 (root (q.drop (half p.length))).d]) (V := Value.agg #[w32 (root (q.take (half p.length))).a, w32 (root (q.take (half p.length))).b, w32 (root (q.take (half p.length))).c, w32 (root (q.take (half p.length))).d, w32 (root (q.drop (half p.length))).a, w32 (root (q.drop (half p.length))).b, w32 (root (q.drop (half p.length))).c, w32 (root (q.drop (half p.length))).d]) s10_11 s39_11 hbb10_12 (Nat.le_of_ble_eq_true rfl) rfl siz_44 rfl rfl (fun wd13 hX hz hbb10_13 => ?_))
 have hE_13 := hE_12.since hX (fun k e => e ▸ fr_b10)
 have hbb4_13 := hbb4_12.ext hX ne_b4_b10
 have hbb5_13 := hbb5_12.ext hX ne_b5_b10
 have hbb7_13 := hbb7_12.ext hX ne_b7_b10
 have hbb9_13 := hbb9_12.ext hX ne_b9_b10
 have hsx1_13 := SlT.over hsx1_12 hX nb_x1_b10
 have hsx2_13 := SlT.over hsx2_12 hX nb_x2_b10
 have hsxa_13 := SlT.over hsxa_12 hX nb_xa_b10
 have hsxb_13 := SlT.over hsxb_12 hX nb_xb_b10
 clear hX hz hE_12 hbb4_12 hbb5_12 hbb7_12 hbb9_12 hbb10_12 hsx1_12 hsx2_12 hsxa_12 hsxb_12
 refine tail_nil ?_
 refine wp_block ?_
 refine wp_seq ?_
 refine region_lex [] [(47, Pr.ex (Value.agg #[w32 (root (p.take (half p.length))).a, w32 (root (p.take (half p.length))).b, w32 (root (p.take (half p.length))).c, w32 (root (p.take (half p.length))).d, w32 (root (p.drop (half p.length))).a, w32 (root (p.drop (half p.length))).b, w32 (root (p.drop (half p.length))).c, w32 (root (p.drop (half p.length))).d])), (48, Pr.ex (Value.agg #[w32 (root (q.take (half p.length))).a, w32 (root (q.take (half p.length))).b, w32 (root (q.take (half p.length))).c, w32 (root (q.take (half p.length))).d, w32 (root (q.drop (half p.length))).a, w32 (root (q.drop (half p.length))).b, w32 (root (q.drop (half p.length))).c, w32 (root (q.drop (half p.length))).d])), (49, Pr.ex (Value.bool (!decide (((root (p.take (half p.length)), root (p.drop (half p.length))) : Two) = ((root (q.take (half p.length)), root (q.drop (half p.length))) : Two))))), (46, Pr.ex (Value.bool (!decide (((root (p.take (half p.length)), root (p.drop (half p.length))) : Two) = ((root (q.take (half p.length)), root (q.drop (half p.length))) : Two)))))] 4 hN_11 hD_11 (by kernel_rfl) (by kernel_rfl) ?_ ?_
 refine Asks.cons ?_ (Asks.cons ?_ (Asks.cons ?_ (Asks.cons ?_ (Asks.zero _))))
 exact Ask.plain rfl rfl fun aq wq hNq hO hR hT => does_loadD (o := 0) (n := 8) (mid := [w32 (root (p.take (half p.length))).a, w32 (root (p.take (half p.length))).b, w32 (root (p.take (half p.length))).c, w32 (root (p.take (half p.length))).d, w32 (root (p.drop (half p.length))).a, w32 (root (p.drop (half p.length))).b, w32 (root (p.drop (half p.length))).c, w32 (root (p.drop (half p.length))).d]) ((hO 9 rfl).trans s9_11) (hbb9_13.ext' hR) rfl rfl (Nat.le_of_ble_eq_true rfl) row_44 rfl ⟨Ext.refl _, rfl⟩
 exact Ask.plain rfl rfl fun aq wq hNq hO hR hT => does_loadD (o := 0) (n := 8) (mid := [w32 (root (q.take (half p.length))).a, w32 (root (q.take (half p.length))).b, w32 (root (q.take (half p.length))).c, w32 (root (q.take (half p.length))).d, w32 (root (q.drop (half p.length))).a, w32 (root (q.drop (half p.length))).b, w32 (root (q.drop (half p.length))).c, w32 (root (q.drop (half p.length))).d]) ((hO 10 rfl).trans s10_11) (hbb10_13.ext' hR) rfl rfl (Nat.le_of_ble_eq_true rfl) row_44 rfl ⟨Ext.refl _, rfl⟩
 exact Ask.plain rfl rfl fun aq wq hNq hO hR hT => does_neT (a := ((root (p.take (half p.length)), root (p.drop (half p.length))) : Two)) (b := ((root (q.take (half p.length)), root (q.drop (half p.length))) : Two)) eq_44 (hT 47 rfl rfl) (hT 48 rfl rfl) ⟨Ext.refl _, rfl⟩
 exact Ask.plain rfl rfl fun aq wq hNq hO hR hT => does_assign (V := Value.bool (!decide (((root (p.take (half p.length)), root (p.drop (half p.length))) : Two) = ((root (q.take (half p.length)), root (q.drop (half p.length))) : Two)))) (hT 49 rfl rfl) ⟨Ext.refl _, rfl⟩
 intro a14 wd14 hN_14 hD_14 hO hR hA hU
 obtain ⟨_, _, _, t46, _⟩ := hA
 have hE_14 := hE_13.trans hR
 have s0_14 := (hO 0 rfl).trans s0_11
 have s1_14 := (hO 1 rfl).trans s1_11
 have s4_14 := (hO 4 rfl).trans s4_11
 have s5_14 := (hO 5 rfl).trans s5_11
 have s7_14 := (hO 7 rfl).trans s7_11
 have s9_14 := (hO 9 rfl).trans s9_11
 have s10_14 := (hO 10 rfl).trans s10_11
 have hbb4_14 := hbb4_13.ext' hR
 have hbb5_14 := hbb5_13.ext' hR
 have hbb7_14 := hbb7_13.ext' hR
 have hbb9_14 := hbb9_13.ext' hR
 have hbb10_14 := hbb10_13.ext' hR
 have hsx1_14 := hsx1_13.ext' hR
 have hsx2_14 := hsx2_13.ext' hR
 have hsxa_14 := hsxa_13.ext' hR
 have hsxb_14 := hsxb_13.ext' hR
 have s46_14 : get a14 46 = Value.bool (!decide (((root (p.take (half p.length)), root (p.drop (half p.length))) : Two) = ((root (q.take (half p.length)), root (q.drop (half p.length))) : Two))) := t46
 clear hE_13 hN_11 hD_11 s0_11 s1_11 s4_11 s5_11 s7_11 s9_11 s10_11 s36_11 s39_11 hbb4_13 hbb5_13 hbb7_13 hbb9_13 hbb10_13 hsx1_13 hsx2_13 hsxa_13 hsxb_13
 refine tail_nil ?_
 refine wp_if (B := !decide (((root (p.take (half p.length)), root (p.drop (half p.length))) : Two) = ((root (q.take (half p.length)), root (q.drop (half p.length))) : Two))) s46_14 (fun hc1 => ?_) (fun hc1 => ?_)
 have hc1 := of_decide_eq_false (bn hc1)
 refine wp_seq ?_
 refine region_late [] [(50, Pr.ex (Value.agg #[w32 (root (p.take (half p.length))).a, w32 (root (p.take (half p.length))).b, w32 (root (p.take (half p.length))).c, w32 (root (p.take (half p.length))).d, w32 (root (p.drop (half p.length))).a, w32 (root (p.drop (half p.length))).b, w32 (root (p.drop (half p.length))).c, w32 (root (p.drop (half p.length))).d])), (51, Pr.ex (Value.agg #[w32 (root (q.take (half p.length))).a, w32 (root (q.take (half p.length))).b, w32 (root (q.take (half p.length))).c, w32 (root (q.take (half p.length))).d, w32 (root (q.drop (half p.length))).a, w32 (root (q.drop (half p.length))).b, w32 (root (q.drop (half p.length))).c, w32 (root (q.drop (half p.length))).d]))] 2 [1] (fun k => k = b4 ∨ k = b5) mixed hN_14 hD_14 (by kernel_rfl) (by kernel_rfl) (by kernel_rfl) (by kernel_rfl) (fun d v c a w h => by cases d <;> exact h) ?_ ?_ ?_
 refine Asks.cons ?_ (Asks.cons ?_ (Asks.zero _))
 exact Ask.plainD rfl rfl fun aq wq hNq hO hR hT => does_loadD (o := 0) (n := 8) (mid := [w32 (root (p.take (half p.length))).a, w32 (root (p.take (half p.length))).b, w32 (root (p.take (half p.length))).c, w32 (root (p.take (half p.length))).d, w32 (root (p.drop (half p.length))).a, w32 (root (p.drop (half p.length))).b, w32 (root (p.drop (half p.length))).c, w32 (root (p.drop (half p.length))).d]) ((hO 9 rfl).trans s9_14) (hbb9_14.ext' hR) rfl rfl (Nat.le_of_ble_eq_true rfl) row_44 rfl ⟨Ext.refl _, rfl⟩
 exact Ask.plainD rfl rfl fun aq wq hNq hO hR hT => does_loadD (o := 0) (n := 8) (mid := [w32 (root (q.take (half p.length))).a, w32 (root (q.take (half p.length))).b, w32 (root (q.take (half p.length))).c, w32 (root (q.take (half p.length))).d, w32 (root (q.drop (half p.length))).a, w32 (root (q.drop (half p.length))).b, w32 (root (q.drop (half p.length))).c, w32 (root (q.drop (half p.length))).d]) ((hO 10 rfl).trans s10_14) (hbb10_14.ext' hR) rfl rfl (Nat.le_of_ble_eq_true rfl) row_44 rfl ⟨Ext.refl _, rfl⟩
 refine LateAsks.cons rfl rfl rfl ?_ LateAsks.nil
 intro aq wq hO hR hT
 have hR0 := hR
 replace hR := (Ext.drew _).trans hR
 exact ⟨_, yl_loadD (o := 0) (n := 8) (mid := [w32 (root (q.take (half p.length))).a, w32 (root (q.take (half p.length))).b, w32 (root (q.take (half p.length))).c, w32 (root (q.take (half p.length))).d, w32 (root (q.drop (half p.length))).a, w32 (root (q.drop (half p.length))).b, w32 (root (q.drop (half p.length))).c, w32 (root (q.drop (half p.length))).d]) ((hO 10 rfl).trans s10_14) hbb10_14 (fun e => e.elim ne_b4_b10.symm ne_b5_b10.symm) rfl rfl (Nat.le_of_ble_eq_true rfl) row_44 rfl, rfl⟩
 intro wl hwl hwh a15 wd15 hN_15 hD_15 hO hR hA hU
 have hS_15 : ExtE (fun k => k = b4 ∨ k = b5) wl wd15 := hR.toE
 replace hR := hwl.trans hR
 obtain ⟨t50, t51, _⟩ := hA
 have hE_15 := hE_14.trans hR
 have s4_15 := (hO 4 rfl).trans s4_14
 have s5_15 := (hO 5 rfl).trans s5_14
 have hbb4_15 := hbb4_14.ext' hR
 have hbb5_15 := hbb5_14.ext' hR
 have hbb7_15 := hbb7_14.ext' hR
 have hbb9_15 := hbb9_14.ext' hR
 have hbb10_15 := hbb10_14.ext' hR
 have hsx1_15 := hsx1_14.ext' hR
 have hsx2_15 := hsx2_14.ext' hR
 have hsxa_15 := hsxa_14.ext' hR
 have hsxb_15 := hsxb_14.ext' hR
 have s50_15 : get a15 50 = Value.agg #[w32 (root (p.take (half p.length))).a, w32 (root (p.take (half p.length))).b, w32 (root (p.take (half p.length))).c, w32 (root (p.take (half p.length))).d, w32 (root (p.drop (half p.length))).a, w32 (root (p.drop (half p.length))).b, w32 (root (p.drop (half p.length))).c, w32 (root (p.drop (half p.length))).d] := t50
 have s51_15 : get a15 51 = Value.agg #[w32 (root (q.take (half p.length))).a, w32 (root (q.take (half p.length))).b, w32 (root (q.take (half p.length))).c, w32 (root (q.take (half p.length))).d, w32 (root (q.drop (half p.length))).a, w32 (root (q.drop (half p.length))).b, w32 (root (q.drop (half p.length))).c, w32 (root (q.drop (half p.length))).d] := t51
 clear hE_14 hN_14 hD_14 s0_14 s1_14 s4_14 s5_14 s7_14 s9_14 s10_14 s46_14 hbb4_14 hbb5_14 hbb7_14 hbb9_14 hbb10_14 hsx1_14 hsx2_14 hsxa_14 hsxb_14
 refine tailS_none rfl rfl (does_storeD (o := 0) (n := 8) (cs' := [w32 (root (p.take (half p.length))).a, w32 (root (p.take (half p.length))).b, w32 (root (p.take (half p.length))).c, w32 (root (p.take (half p.length))).d, w32 (root (p.drop (half p.length))).a, w32 (root (p.drop (half p.length))).b, w32 (root (p.drop (half p.length))).c, w32 (root (p.drop (half p.length))).d]) (V := Value.agg #[w32 (root (p.take (half p.length))).a, w32 (root (p.take (half p.length))).b, w32 (root (p.take (half p.length))).c, w32 (root (p.take (half p.length))).d, w32 (root (p.drop (half p.length))).a, w32 (root (p.drop (half p.length))).b, w32 (root (p.drop (half p.length))).c, w32 (root (p.drop (half p.length))).d]) s4_15 s50_15 hbb4_15 (Nat.le_of_ble_eq_true rfl) rfl siz_44 rfl rfl (fun wd16 hX hz hbb4_16 => ⟨hS_15.trans (hX.mono fun k _ e => .inl e), ?_⟩))
 have hS_16 := hS_15.trans (hX.mono (E' := (fun k => k = b4 ∨ k = b5)) fun k _ e => .inl e)
 have hE_16 := hE_15.since hX (fun k e => e ▸ fr_b4)
 have hbb5_16 := hbb5_15.ext hX ne_b4_b5.symm
 have hbb7_16 := hbb7_15.ext hX ne_b4_b7.symm
 have hbb9_16 := hbb9_15.ext hX ne_b4_b9.symm
 have hbb10_16 := hbb10_15.ext hX ne_b4_b10.symm
 have hsx1_16 := SlT.over hsx1_15 hX nb_x1_b4
 have hsx2_16 := SlT.over hsx2_15 hX nb_x2_b4
 have hsxa_16 := SlT.over hsxa_15 hX (SlT.low hsxa_15 fr_b4)
 have hsxb_16 := SlT.over hsxb_15 hX (SlT.low hsxb_15 fr_b4)
 clear hX hz hE_15 hbb4_15 hbb5_15 hbb7_15 hbb9_15 hbb10_15 hsx1_15 hsx2_15 hsxa_15 hsxb_15
 refine tailS_none rfl rfl (does_storeD (o := 0) (n := 8) (cs' := [w32 (root (q.take (half p.length))).a, w32 (root (q.take (half p.length))).b, w32 (root (q.take (half p.length))).c, w32 (root (q.take (half p.length))).d, w32 (root (q.drop (half p.length))).a, w32 (root (q.drop (half p.length))).b, w32 (root (q.drop (half p.length))).c, w32 (root (q.drop (half p.length))).d]) (V := Value.agg #[w32 (root (q.take (half p.length))).a, w32 (root (q.take (half p.length))).b, w32 (root (q.take (half p.length))).c, w32 (root (q.take (half p.length))).d, w32 (root (q.drop (half p.length))).a, w32 (root (q.drop (half p.length))).b, w32 (root (q.drop (half p.length))).c, w32 (root (q.drop (half p.length))).d]) s5_15 s51_15 hbb5_16 (Nat.le_of_ble_eq_true rfl) rfl siz_44 rfl rfl (fun wd17 hX hz hbb5_17 => ⟨hS_16.trans (hX.mono fun k _ e => .inr e), ?_⟩))
 have hS_17 := hS_16.trans (hX.mono (E' := (fun k => k = b4 ∨ k = b5)) fun k _ e => .inr e)
 have hE_17 := hE_16.since hX (fun k e => e ▸ fr_b5)
 have hbb4_17 := hbb4_16.ext hX ne_b4_b5
 have hbb7_17 := hbb7_16.ext hX ne_b5_b7.symm
 have hbb9_17 := hbb9_16.ext hX ne_b5_b9.symm
 have hbb10_17 := hbb10_16.ext hX ne_b5_b10.symm
 have hsx1_17 := SlT.over hsx1_16 hX nb_x1_b5
 have hsx2_17 := SlT.over hsx2_16 hX nb_x2_b5
 have hsxa_17 := SlT.over hsxa_16 hX (SlT.low hsxa_16 fr_b5)
 have hsxb_17 := SlT.over hsxb_16 hX (SlT.low hsxb_16 fr_b5)
 clear hX hz hE_16 hbb4_16 hbb5_16 hbb7_16 hbb9_16 hbb10_16 hsx1_16 hsx2_16 hsxa_16 hsxb_16
 refine tailS_put rfl rfl hN_15 hD_15 (by decide) (does_assign (V := Value.bool (true)) rfl (⟨hS_17, fun a18 hN_18 hD_18 hv hO => ?_⟩))
 have s6_18 := hv
 have s4_18 := (hO 4 rfl).trans s4_15
 have s5_18 := (hO 5 rfl).trans s5_15
 clear hO hv hN_15 hD_15 s4_15 s5_15 s50_15 s51_15
 refine tailS_nil ?_
 refine wp_ret ?_
 refine res_three (V1 := Value.agg #[w32 (root (p.take (half p.length))).a, w32 (root (p.take (half p.length))).b, w32 (root (p.take (half p.length))).c, w32 (root (p.take (half p.length))).d, w32 (root (p.drop (half p.length))).a, w32 (root (p.drop (half p.length))).b, w32 (root (p.drop (half p.length))).c, w32 (root (p.drop (half p.length))).d]) (V2 := Value.agg #[w32 (root (q.take (half p.length))).a, w32 (root (q.take (half p.length))).b, w32 (root (q.take (half p.length))).c, w32 (root (q.take (half p.length))).d, w32 (root (q.drop (half p.length))).a, w32 (root (q.drop (half p.length))).b, w32 (root (q.drop (half p.length))).c, w32 (root (q.drop (half p.length))).d]) (V3 := Value.bool (true)) rfl hD_18 (ResIs.cell s4_18 hbb4_17 row_44 rfl rfl) (ResIs.cell s5_18 hbb5_17 row_44 rfl rfl) s6_18 ?_
 obtain ⟨e1, e2, e3⟩ := prods (hcl.trans (clash_here hpq hc1))
 exact ⟨by show Value.tuple _ = Value.tuple _; rw [e1, e2, e3]; rfl, hE_17⟩
 have hc1 := of_decide_eq_true (bn' hc1)
 have hx : halves (half p.length) p = halves (half p.length) q := hc1
 refine wp_seq ?_
 refine region_any [] [(53, Pr.ex (xa)), (54, Pr.ex (i64 ((half p.length : Nat) : Int))), (55, Pr.sl' DG 0 (w0.heap.size + 1) (p.take (half p.length))), (56, Pr.ex (xb)), (57, Pr.ex (i64 ((half p.length : Nat) : Int))), (58, Pr.sl' DG 0 (w0.heap.size + 1) (q.take (half p.length))), (59, Pr.ex (Value.bool (decide (p.take (half p.length) = q.take (half p.length))))), (60, Pr.ex (Value.bool (!(decide (p.take (half p.length) = q.take (half p.length)))))), (52, Pr.ex (Value.bool (!(decide (p.take (half p.length) = q.take (half p.length))))))] 9 mixed hN_14 hD_14 (by kernel_rfl) (by kernel_rfl) (by kernel_rfl) ?_ ?_
 refine Asks.cons ?_ (Asks.cons ?_ (Asks.cons ?_ (Asks.cons ?_ (Asks.cons ?_ (Asks.cons ?_ (Asks.cons ?_ (Asks.cons ?_ (Asks.cons ?_ (Asks.zero _)))))))))
 exact Ask.plainD rfl rfl fun aq wq hNq hO hR hT => does_move (V := xa) ((hO 0 rfl).trans s0_14) ⟨Ext.refl _, rfl⟩
 exact Ask.plainD rfl rfl fun aq wq hNq hO hR hT => does_loadD1 (o := 0) (V := i64 ((half p.length : Nat) : Int)) ((hO 7 rfl).trans s7_14) (hbb7_14.ext' hR) rfl one_3 ⟨Ext.refl _, rfl⟩
 exact Ask.plainD rfl rfl fun aq wq hNq hO hR hT => does_sliceHi (T := DG) (xs := p) (k := ((half p.length : Nat) : Int)) sli_41 rfl (SlT.at (hT 53 rfl rfl) (hsxa_14.ext' hR)) (hT 54 rfl rfl) (by omega) (by omega) (fun v h => ⟨Ext.refl _, h⟩)
 exact Ask.plainD rfl rfl fun aq wq hNq hO hR hT => does_move (V := xb) ((hO 1 rfl).trans s1_14) ⟨Ext.refl _, rfl⟩
 exact Ask.plainD rfl rfl fun aq wq hNq hO hR hT => does_loadD1 (o := 0) (V := i64 ((half p.length : Nat) : Int)) ((hO 7 rfl).trans s7_14) (hbb7_14.ext' hR) rfl one_3 ⟨Ext.refl _, rfl⟩
 exact Ask.plainD rfl rfl fun aq wq hNq hO hR hT => does_sliceHi (T := DG) (xs := q) (k := ((half p.length : Nat) : Int)) sli_41 rfl (SlT.at (hT 56 rfl rfl) (hsxb_14.ext' hR)) (hT 57 rfl rfl) (by omega) (by omega) (fun v h => ⟨Ext.refl _, h⟩)
 exact Ask.plainD rfl rfl fun aq wq hNq hO hR hT => does_ret (vs := #[get aq 55, get aq 58]) call_48 (args2 rfl rfl) rfl ((equalD (p.take (half p.length)) (q.take (half p.length)) (get aq 55) (get aq 58) wq ((hT 55 rfl rfl).wide (Nat.zero_le _) (.inl rfl)) ((hT 58 rfl rfl).wide (Nat.zero_le _) (.inl rfl)) (by first | omega | (simp only [List.length_take]; omega))).mono fun v w2 h => ⟨h.2, h.1⟩)
 exact Ask.plainD rfl rfl fun aq wq hNq hO hR hT => does_not (B := decide (p.take (half p.length) = q.take (half p.length))) (hT 59 rfl rfl) ⟨Ext.refl _, rfl⟩
 exact Ask.plainD rfl rfl fun aq wq hNq hO hR hT => does_assign (V := Value.bool (!(decide (p.take (half p.length) = q.take (half p.length))))) (hT 60 rfl rfl) ⟨Ext.refl _, rfl⟩
 intro a19 wd19 hN_19 hD_19 hO hR hA hU
 obtain ⟨_, _, _, _, _, _, _, _, t52, _⟩ := hA
 have hE_19 := hE_14.trans hR
 have s0_19 := (hO 0 rfl).trans s0_14
 have s1_19 := (hO 1 rfl).trans s1_14
 have s4_19 := (hO 4 rfl).trans s4_14
 have s5_19 := (hO 5 rfl).trans s5_14
 have s7_19 := (hO 7 rfl).trans s7_14
 have hbb4_19 := hbb4_14.ext' hR
 have hbb5_19 := hbb5_14.ext' hR
 have hbb7_19 := hbb7_14.ext' hR
 have hbb9_19 := hbb9_14.ext' hR
 have hbb10_19 := hbb10_14.ext' hR
 have hsx1_19 := hsx1_14.ext' hR
 have hsx2_19 := hsx2_14.ext' hR
 have hsxa_19 := hsxa_14.ext' hR
 have hsxb_19 := hsxb_14.ext' hR
 have s52_19 : get a19 52 = Value.bool (!(decide (p.take (half p.length) = q.take (half p.length)))) := t52
 clear hE_14 hN_14 hD_14 s0_14 s1_14 s4_14 s5_14 s7_14 s9_14 s10_14 s46_14 hbb4_14 hbb5_14 hbb7_14 hbb9_14 hbb10_14 hsx1_14 hsx2_14 hsxa_14 hsxb_14
 refine tail_nil ?_
 refine wp_if (B := !(decide (p.take (half p.length) = q.take (half p.length)))) s52_19 (fun hc2 => ?_) (fun hc2 => ?_)
 refine region_late [] [(61, Pr.ex (xa)), (62, Pr.ex (i64 ((half p.length : Nat) : Int))), (63, Pr.sl' DG 0 (w0.heap.size + 1) (p.take (half p.length))), (64, Pr.ex (xb)), (65, Pr.ex (i64 ((half p.length : Nat) : Int))), (66, Pr.sl' DG 0 (w0.heap.size + 1) (q.take (half p.length)))] 6 [3, 4, 5] (fun k => False) mixed hN_19 hD_19 (by kernel_rfl) (by kernel_rfl) (by kernel_rfl) (by kernel_rfl) (fun d v c a w h => by cases d <;> exact h) ?_ ?_ ?_
 refine Asks.cons ?_ (Asks.cons ?_ (Asks.cons ?_ (Asks.cons ?_ (Asks.cons ?_ (Asks.cons ?_ (Asks.zero _))))))
 exact Ask.plainD rfl rfl fun aq wq hNq hO hR hT => does_move (V := xa) ((hO 0 rfl).trans s0_19) ⟨Ext.refl _, rfl⟩
 exact Ask.plainD rfl rfl fun aq wq hNq hO hR hT => does_loadD1 (o := 0) (V := i64 ((half p.length : Nat) : Int)) ((hO 7 rfl).trans s7_19) (hbb7_19.ext' hR) rfl one_3 ⟨Ext.refl _, rfl⟩
 exact Ask.plainD rfl rfl fun aq wq hNq hO hR hT => does_sliceHi (T := DG) (xs := p) (k := ((half p.length : Nat) : Int)) sli_41 rfl (SlT.at (hT 61 rfl rfl) (hsxa_19.ext' hR)) (hT 62 rfl rfl) (by omega) (by omega) (fun v h => ⟨Ext.refl _, h⟩)
 exact Ask.plainD rfl rfl fun aq wq hNq hO hR hT => does_move (V := xb) ((hO 1 rfl).trans s1_19) ⟨Ext.refl _, rfl⟩
 exact Ask.plainD rfl rfl fun aq wq hNq hO hR hT => does_loadD1 (o := 0) (V := i64 ((half p.length : Nat) : Int)) ((hO 7 rfl).trans s7_19) (hbb7_19.ext' hR) rfl one_3 ⟨Ext.refl _, rfl⟩
 exact Ask.plainD rfl rfl fun aq wq hNq hO hR hT => does_sliceHi (T := DG) (xs := q) (k := ((half p.length : Nat) : Int)) sli_41 rfl (SlT.at (hT 64 rfl rfl) (hsxb_19.ext' hR)) (hT 65 rfl rfl) (by omega) (by omega) (fun v h => ⟨Ext.refl _, h⟩)
 refine LateAsks.cons rfl rfl rfl ?_ (LateAsks.cons rfl rfl rfl ?_ (LateAsks.cons rfl rfl rfl ?_ LateAsks.nil))
 intro aq wq hO hR hT
 have hR0 := hR
 replace hR := (Ext.drew _).trans hR
 exact ⟨_, yl_move (V := xb) ((hO 1 rfl).trans s1_19), rfl⟩
 intro aq wq hO hR hT
 have hR0 := hR
 replace hR := (Ext.drew _).trans hR
 exact ⟨_, yl_loadD1 (o := 0) (V := i64 ((half p.length : Nat) : Int)) ((hO 7 rfl).trans s7_19) hbb7_19 (fun e => e) rfl one_3, rfl⟩
 intro aq wq hO hR hT
 have hR0 := hR
 replace hR := (Ext.drew _).trans hR
 exact yl_sliceHi (T := DG) (xs := q) (k := ((half p.length : Nat) : Int)) sli_41 rfl (SlT.at (hT 64 rfl rfl) (hsxb_19.ext' hR)) (hT 65 rfl rfl) (by omega) (by omega)
 intro wl hwl hwh a20 wd20 hN_20 hD_20 hO hR hA hU
 have hS_20 : ExtE (fun k => False) wl wd20 := hR.toE
 replace hR := hwl.trans hR
 obtain ⟨_, _, t63, _, _, t66, _⟩ := hA
 have hE_20 := hE_19.trans hR
 have s0_20 := (hO 0 rfl).trans s0_19
 have s1_20 := (hO 1 rfl).trans s1_19
 have s4_20 := (hO 4 rfl).trans s4_19
 have s5_20 := (hO 5 rfl).trans s5_19
 have hbb4_20 := hbb4_19.ext' hR
 have hbb5_20 := hbb5_19.ext' hR
 have hbb7_20 := hbb7_19.ext' hR
 have hbb9_20 := hbb9_19.ext' hR
 have hbb10_20 := hbb10_19.ext' hR
 have hsx1_20 := hsx1_19.ext' hR
 have hsx2_20 := hsx2_19.ext' hR
 have hsxa_20 := hsxa_19.ext' hR
 have hsxb_20 := hsxb_19.ext' hR
 obtain ⟨x63, s63_20⟩ : ∃ x, get a20 63 = x := ⟨_, rfl⟩
 replace t63 : SlT DG 0 (w0.heap.size + 1) (p.take (half p.length)) x63 wd20 := by rw [← s63_20]; exact t63
 have hsx63_20 := t63
 obtain ⟨x66, s66_20⟩ : ∃ x, get a20 66 = x := ⟨_, rfl⟩
 replace t66 : SlT DG 0 (w0.heap.size + 1) (q.take (half p.length)) x66 wd20 := by rw [← s66_20]; exact t66
 have hsx66_20 := t66
 clear hE_19 hN_19 hD_19 s0_19 s1_19 s4_19 s5_19 s7_19 s52_19 hbb4_19 hbb5_19 hbb7_19 hbb9_19 hbb10_19 hsx1_19 hsx2_19 hsxa_19 hsxb_19
 refine tailS_put rfl rfl hN_20 hD_20 (by decide) (does_assign (V := x63) s63_20 (⟨hS_20, fun a21 hN_21 hD_21 hv hO => ?_⟩))
 have s0_21 := hv
 have s1_21 := (hO 1 rfl).trans s1_20
 have s4_21 := (hO 4 rfl).trans s4_20
 have s5_21 := (hO 5 rfl).trans s5_20
 have s66_21 := (hO 66 rfl).trans s66_20
 clear hO hv hN_20 hD_20 s1_20 s4_20 s5_20 s63_20 s66_20 s0_20
 refine tailS_put rfl rfl hN_21 hD_21 (by decide) (does_assign (V := x66) s66_21 (⟨hS_20, fun a22 hN_22 hD_22 hv hO => ?_⟩))
 have s1_22 := hv
 have s0_22 := (hO 0 rfl).trans s0_21
 have s4_22 := (hO 4 rfl).trans s4_21
 have s5_22 := (hO 5 rfl).trans s5_21
 clear hO hv hN_21 hD_21 s0_21 s4_21 s5_21 s66_21 s1_21
 refine tailS_nil ?_
 have ht : ¬ p.take (half p.length) = q.take (half p.length) := of_decide_eq_false (bn hc2)
 exact ⟨_, by rw [List.length_take]; omega, (p.take (half p.length)), (q.take (half p.length)), x63, x66, rfl, hN_22, hD_22, s0_22, s1_22, s4_22, s5_22, hE_20, hbb4_20, hbb5_20, hsx1_20, hsx2_20, hsx63_20, hsx66_20, hcl.trans (clash_lo hpq hx ht), ⟨by rw [List.length_take, List.length_take, hpq.1], ht, congrArg Prod.fst hx⟩, by rw [List.length_take]; omega⟩
 refine region_late [] [(40, Pr.ex (xa)), (41, Pr.ex (i64 ((half p.length : Nat) : Int))), (42, Pr.sl' DG 0 (w0.heap.size + 1) (p.drop (half p.length))), (43, Pr.ex (xb)), (44, Pr.ex (i64 ((half p.length : Nat) : Int))), (45, Pr.sl' DG 0 (w0.heap.size + 1) (q.drop (half p.length)))] 6 [3, 4, 5] (fun k => False) mixed hN_19 hD_19 (by kernel_rfl) (by kernel_rfl) (by kernel_rfl) (by kernel_rfl) (fun d v c a w h => by cases d <;> exact h) ?_ ?_ ?_
 refine Asks.cons ?_ (Asks.cons ?_ (Asks.cons ?_ (Asks.cons ?_ (Asks.cons ?_ (Asks.cons ?_ (Asks.zero _))))))
 exact Ask.plainD rfl rfl fun aq wq hNq hO hR hT => does_move (V := xa) ((hO 0 rfl).trans s0_19) ⟨Ext.refl _, rfl⟩
 exact Ask.plainD rfl rfl fun aq wq hNq hO hR hT => does_loadD1 (o := 0) (V := i64 ((half p.length : Nat) : Int)) ((hO 7 rfl).trans s7_19) (hbb7_19.ext' hR) rfl one_3 ⟨Ext.refl _, rfl⟩
 exact Ask.plainD rfl rfl fun aq wq hNq hO hR hT => does_sliceLo (T := DG) (xs := p) (k := ((half p.length : Nat) : Int)) sli_41 rfl (SlT.at (hT 40 rfl rfl) (hsxa_19.ext' hR)) (hT 41 rfl rfl) (by omega) (by omega) (fun v h => ⟨Ext.refl _, h⟩)
 exact Ask.plainD rfl rfl fun aq wq hNq hO hR hT => does_move (V := xb) ((hO 1 rfl).trans s1_19) ⟨Ext.refl _, rfl⟩
 exact Ask.plainD rfl rfl fun aq wq hNq hO hR hT => does_loadD1 (o := 0) (V := i64 ((half p.length : Nat) : Int)) ((hO 7 rfl).trans s7_19) (hbb7_19.ext' hR) rfl one_3 ⟨Ext.refl _, rfl⟩
 exact Ask.plainD rfl rfl fun aq wq hNq hO hR hT => does_sliceLo (T := DG) (xs := q) (k := ((half p.length : Nat) : Int)) sli_41 rfl (SlT.at (hT 43 rfl rfl) (hsxb_19.ext' hR)) (hT 44 rfl rfl) (by omega) (by omega) (fun v h => ⟨Ext.refl _, h⟩)
 refine LateAsks.cons rfl rfl rfl ?_ (LateAsks.cons rfl rfl rfl ?_ (LateAsks.cons rfl rfl rfl ?_ LateAsks.nil))
 intro aq wq hO hR hT
 have hR0 := hR
 replace hR := (Ext.drew _).trans hR
 exact ⟨_, yl_move (V := xb) ((hO 1 rfl).trans s1_19), rfl⟩
 intro aq wq hO hR hT
 have hR0 := hR
 replace hR := (Ext.drew _).trans hR
 exact ⟨_, yl_loadD1 (o := 0) (V := i64 ((half p.length : Nat) : Int)) ((hO 7 rfl).trans s7_19) hbb7_19 (fun e => e) rfl one_3, rfl⟩
 intro aq wq hO hR hT
 have hR0 := hR
 replace hR := (Ext.drew _).trans hR
 exact yl_sliceLo (T := DG) (xs := q) (k := ((half p.length : Nat) : Int)) sli_41 rfl (SlT.at (hT 43 rfl rfl) (hsxb_19.ext' hR)) (hT 44 rfl rfl) (by omega) (by omega)
 intro wl hwl hwh a23 wd23 hN_23 hD_23 hO hR hA hU
 have hS_23 : ExtE (fun k => False) wl wd23 := hR.toE
 replace hR := hwl.trans hR
 obtain ⟨_, _, t42, _, _, t45, _⟩ := hA
 have hE_23 := hE_19.trans hR
 have s0_23 := (hO 0 rfl).trans s0_19
 have s1_23 := (hO 1 rfl).trans s1_19
 have s4_23 := (hO 4 rfl).trans s4_19
 have s5_23 := (hO 5 rfl).trans s5_19
 have hbb4_23 := hbb4_19.ext' hR
 have hbb5_23 := hbb5_19.ext' hR
 have hbb7_23 := hbb7_19.ext' hR
 have hbb9_23 := hbb9_19.ext' hR
 have hbb10_23 := hbb10_19.ext' hR
 have hsx1_23 := hsx1_19.ext' hR
 have hsx2_23 := hsx2_19.ext' hR
 have hsxa_23 := hsxa_19.ext' hR
 have hsxb_23 := hsxb_19.ext' hR
 obtain ⟨x42, s42_23⟩ : ∃ x, get a23 42 = x := ⟨_, rfl⟩
 replace t42 : SlT DG 0 (w0.heap.size + 1) (p.drop (half p.length)) x42 wd23 := by rw [← s42_23]; exact t42
 have hsx42_23 := t42
 obtain ⟨x45, s45_23⟩ : ∃ x, get a23 45 = x := ⟨_, rfl⟩
 replace t45 : SlT DG 0 (w0.heap.size + 1) (q.drop (half p.length)) x45 wd23 := by rw [← s45_23]; exact t45
 have hsx45_23 := t45
 clear hE_19 hN_19 hD_19 s0_19 s1_19 s4_19 s5_19 s7_19 s52_19 hbb4_19 hbb5_19 hbb7_19 hbb9_19 hbb10_19 hsx1_19 hsx2_19 hsxa_19 hsxb_19
 refine tailS_put rfl rfl hN_23 hD_23 (by decide) (does_assign (V := x42) s42_23 (⟨hS_23, fun a24 hN_24 hD_24 hv hO => ?_⟩))
 have s0_24 := hv
 have s1_24 := (hO 1 rfl).trans s1_23
 have s4_24 := (hO 4 rfl).trans s4_23
 have s5_24 := (hO 5 rfl).trans s5_23
 have s45_24 := (hO 45 rfl).trans s45_23
 clear hO hv hN_23 hD_23 s1_23 s4_23 s5_23 s42_23 s45_23 s0_23
 refine tailS_put rfl rfl hN_24 hD_24 (by decide) (does_assign (V := x45) s45_24 (⟨hS_23, fun a25 hN_25 hD_25 hv hO => ?_⟩))
 have s1_25 := hv
 have s0_25 := (hO 0 rfl).trans s0_24
 have s4_25 := (hO 4 rfl).trans s4_24
 have s5_25 := (hO 5 rfl).trans s5_24
 clear hO hv hN_24 hD_24 s0_24 s4_24 s5_24 s45_24 s1_24
 refine tailS_nil ?_
 have ht : p.take (half p.length) = q.take (half p.length) := of_decide_eq_true (bn' hc2)
 exact ⟨_, by rw [List.length_drop]; omega, (p.drop (half p.length)), (q.drop (half p.length)), x42, x45, rfl, hN_25, hD_25, s0_25, s1_25, s4_25, s5_25, hE_23, hbb4_23, hbb5_23, hsx1_23, hsx2_23, hsx42_23, hsx45_23, hcl.trans (clash_hi hpq hx ht), ⟨by rw [List.length_drop, List.length_drop, hpq.1], half_unlike hpq.2.1 _ ht, congrArg Prod.snd hx⟩, by rw [List.length_drop]; omega⟩

end Go.Proofs.YtijfjpbahepegaaDoor
