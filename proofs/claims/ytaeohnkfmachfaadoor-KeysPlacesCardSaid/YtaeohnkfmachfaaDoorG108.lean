/- The walks of functions of the program: printed. -/
import Derived.Test.YtaeohnkfmachfaaDoorKB
import Derived.Test.YtaeohnkfmachfaaDoorG3
import Derived.Test.YtaeohnkfmachfaaDoorF0
set_option maxRecDepth 100000
namespace Go.Proofs.YtaeohnkfmachfaaDoor
open Go Go.RowKit Sk Sd
theorem clash06 (i0 : Nat) (a : Dg) (p : List Dg) (b : Dg) (q : List Dg) (x1 x2 : Value) (w0 : World) (hx1 : SlT DG 0 0 p x1 w0) (hx2 : SlT DG 0 0 q x2 w0) (hn : p.length ≤ 100000) (hi0 : i0 ≤ 100000) :
    Gives Tryd.prog 15 #[i64 (i0 : Int), Dg.val (a), x1, Dg.val (b), x2] w0 (Pr.ex (Value.bool (clashK i0 a p b q))) := by
 refine enter (N := 73) Tryd.func15 rfl rfl ?_
 intro a0 N0 D0 hA
 have s0_0 : get a0 0 = i64 (i0 : Int) := hA 0 _ rfl
 have s1_0 : get a0 1 = Dg.val (a) := hA 1 _ rfl
 have s2_0 : get a0 2 = x1 := hA 2 _ rfl
 have s3_0 : get a0 3 = Dg.val (b) := hA 3 _ rfl
 have s4_0 : get a0 4 = x2 := hA 4 _ rfl
 clear hA
 have E0 : Ext w0 w0 := Ext.refl w0
 have X1_0 := hx1.close
 have X2_0 := hx2.close
 refine wp_seq ?_
 refine Rl [6, 8] [(6, Pr.box' w0.heap.size 24 [w32 (a).a, w32 (a).b, w32 (a).c, w32 (a).d]), (8, Pr.box' w0.heap.size 24 [w32 (b).a, w32 (b).b, w32 (b).c, w32 (b).d]), (10, Pr.ex (Value.bool (false)))] 3 N0 D0 ?_ ?_
 refine Ac ?_ (Ac ?_ (Ac ?_ (Az _)))
 refine Ask.fresh rfl rfl ?_
 intro aq wq hNq hO hR hT
 exact does_box (V := Dg.val (a)) (oT hO s1_0 rfl) (fun b w2 he hlo hb => ⟨he, ⟨b, rfl, Nat.le_trans hR.size' hlo, hb⟩, ⟨b, rfl, hlo, hb.lt⟩⟩)
 refine Ask.fresh rfl rfl ?_
 intro aq wq hNq hO hR hT
 exact does_box (V := Dg.val (b)) (oT hO s3_0 rfl) (fun b w2 he hlo hb => ⟨he, ⟨b, rfl, Nat.le_trans hR.size' hlo, hb⟩, ⟨b, rfl, hlo, hb.lt⟩⟩)
 exact Ap fun aq wq _ hO hR hT => does_assign (V := Value.bool (false)) rfl eR
 intro a1 wd1 N1 D1 hO hR hA hU
 obtain ⟨t6, t8, _, _⟩ := hA
 have E1 := E0.trans hR
 have s0_1 := oT hO s0_0 rfl
 have s2_1 := oT hO s2_0 rfl
 have s4_1 := oT hO s4_0 rfl
 have X1_1 := X1_0.ext' hR
 have X2_1 := X2_0.ext' hR
 obtain ⟨b6, s6_1, lo_b6, B6_1⟩ := t6
 have nb_x1_b6 := SlT.old X1_0 lo_b6
 have nb_x2_b6 := SlT.old X2_0 lo_b6
 have fr_b6 : w0.heap.size ≤ b6 := Nat.le_trans E0.size' lo_b6
 obtain ⟨b8, s8_1, lo_b8, B8_1⟩ := t8
 have nb_x1_b8 := SlT.old X1_0 lo_b8
 have nb_x2_b8 := SlT.old X2_0 lo_b8
 have fr_b8 : w0.heap.size ≤ b8 := Nat.le_trans E0.size' lo_b8
 obtain ⟨u0, ⟨u1, _⟩⟩ := hU
 have ne_b6_b8 : b6 ≠ b8 := fun e => u0 8 (by decide) (by rw [s6_1, s8_1, e])
 clear E0 N0 D0 s0_0 s1_0 s2_0 s3_0 s4_0 X1_0 X2_0
 refine tail_nil ?_
 refine wp_seq ?_
 refine wp_seq ?_
 refine Rl [] [(11, Pr.ex (i64 ((0 : Nat) : Int)))] 1 N1 D1 ?_ ?_
 refine Ac ?_ (Az _)
 exact Ap fun aq wq _ hO hR hT => does_assign (V := i64 ((0 : Nat) : Int)) rfl eR
 intro a2 wd2 N2 D2 hO hR hA hU
 obtain ⟨t11, _⟩ := hA
 have E2 := E1.trans hR
 have s0_2 := oT hO s0_1 rfl
 have s2_2 := oT hO s2_1 rfl
 have s4_2 := oT hO s4_1 rfl
 have s6_2 := oT hO s6_1 rfl
 have s8_2 := oT hO s8_1 rfl
 have B6_2 := B6_1.ext' hR
 have B8_2 := B8_1.ext' hR
 have X1_2 := X1_1.ext' hR
 have X2_2 := X2_1.ext' hR
 have s11_2 : get a2 11 = i64 ((0 : Nat) : Int) := t11
 clear E1 N1 D1 s0_1 s2_1 s4_1 s6_1 s8_1 B6_1 B8_1 X1_1 X2_1
 refine tail_nil ?_
 refine wp_block ?_
 refine loop_g (fun mz az wz => ∃ k : Nat, ∃ i : Nat, ∃ y : Dg, ∃ z : Dg, mz = p.length - k ∧ (az.tmps.size = 73) ∧ (az.defers = []) ∧ (get az 0 = i64 (i : Int)) ∧ (get az 2 = x1) ∧ (get az 4 = x2) ∧ (get az 6 = Value.pointer (some ⟨b6, 0, none⟩)) ∧ (get az 8 = Value.pointer (some ⟨b8, 0, none⟩)) ∧ (get az 11 = i64 (k : Int)) ∧ (Ext w0 wz) ∧ (Has wz b6 24 [w32 (y).a, w32 (y).b, w32 (y).c, w32 (y).d]) ∧ (Has wz b8 24 [w32 (z).a, w32 (z).b, w32 (z).c, w32 (z).d]) ∧ (SlT DG 0 (w0.heap.size + 1) (p) x1 wz) ∧ (SlT DG 0 (w0.heap.size + 1) (q) x2 wz) ∧ (k ≤ p.length ∧ i ≤ 100000) ∧ (clashK i0 a p b q = clashK i y (p.drop k) z (q.drop k))) ?_ ?_
 exact ⟨_, 0, i0, a, b, rfl, N2, D2, s0_2, s2_2, s4_2, s6_2, s8_2, s11_2, E2, B6_2, B8_2, X1_2, X2_2, ⟨Nat.zero_le _, hi0⟩, rfl⟩
 rintro mz a3 wd3 ⟨k, i, y, z, rfl, N3, D3, s0_3, s2_3, s4_3, s6_3, s8_3, s11_3, E3, B6_3, B8_3, X1_3, X2_3, hk, heq⟩
 refine wp_seq ?_
 refine wp_seq ?_
 refine Rl [] [(14, Pr.ex (i64 (k : Int))), (15, Pr.ex (x1)), (16, Pr.ex (i64 (p.length : Int))), (17, Pr.ex (Value.bool (decide ((k : Int) < (p.length : Int))))), (18, Pr.ex (Value.bool (decide ((k : Int) < (p.length : Int))))), (19, Pr.ifb (decide ((k : Int) < (p.length : Int))) (Pr.ex (i64 (k : Int)))), (20, Pr.ifb (decide ((k : Int) < (p.length : Int))) (Pr.ex (x2))), (21, Pr.ifb (decide ((k : Int) < (p.length : Int))) (Pr.ex (i64 (q.length : Int)))), (22, Pr.ifb (decide ((k : Int) < (p.length : Int))) (Pr.ex (Value.bool (decide ((k : Int) < (q.length : Int)))))), (23, Pr.ex (Value.bool ((decide ((k : Int) < (p.length : Int))) && (decide ((k : Int) < (q.length : Int))))))] 10 N3 D3 ?_ ?_
 refine Ac ?_ (Ac ?_ (Ac ?_ (Ac ?_ (Ac ?_ (Ac ?_ (Ac ?_ (Ac ?_ (Ac ?_ (Ac ?_ (Az _))))))))))
 exact Am s11_3 rfl fun _ => rfl
 exact Am s2_3 rfl fun _ => rfl
 exact Ap fun aq wq _ hO hR hT => does_len (T := DG) (xs := p) sli_27 (SlT.at (hT 15 rfl rfl) (X1_3.ext' hR)) eR
 exact Ap fun aq wq _ hO hR hT => does_lss (a := (k : Int)) (b := (p.length : Int)) (hT 14 rfl rfl) (hT 16 rfl rfl) eR
 exact Ap fun aq wq _ hO hR hT => does_move (V := Value.bool (decide ((k : Int) < (p.length : Int)))) (hT 17 rfl rfl) eR
 refine Ask.guarded (B := decide ((k : Int) < (p.length : Int))) (want := true) (t := 18) rfl rfl rfl rfl (by decide) (fun aq wq hO hR hT => hT 18 rfl rfl) (fun hG aq wq hNq hO hR hT => ?_) (fun hno _ => fun hc => absurd hc hno)
 exact does_move (V := i64 (k : Int)) (oT hO s11_3 rfl) ⟨Ext.refl _, fun _ => rfl⟩
 refine Ask.guarded (B := decide ((k : Int) < (p.length : Int))) (want := true) (t := 18) rfl rfl rfl rfl (by decide) (fun aq wq hO hR hT => hT 18 rfl rfl) (fun hG aq wq hNq hO hR hT => ?_) (fun hno _ => fun hc => absurd hc hno)
 exact does_move (V := x2) (oT hO s4_3 rfl) ⟨Ext.refl _, fun _ => rfl⟩
 refine Ask.guarded (B := decide ((k : Int) < (p.length : Int))) (want := true) (t := 18) rfl rfl rfl rfl (by decide) (fun aq wq hO hR hT => hT 18 rfl rfl) (fun hG aq wq hNq hO hR hT => ?_) (fun hno _ => fun hc => absurd hc hno)
 exact does_len (T := DG) (xs := q) sli_27 (SlT.at (hT 20 rfl rfl hG) (X2_3.ext' hR)) ⟨Ext.refl _, fun _ => rfl⟩
 refine Ask.guarded (B := decide ((k : Int) < (p.length : Int))) (want := true) (t := 18) rfl rfl rfl rfl (by decide) (fun aq wq hO hR hT => hT 18 rfl rfl) (fun hG aq wq hNq hO hR hT => ?_) (fun hno _ => fun hc => absurd hc hno)
 exact does_lss (a := (k : Int)) (b := (q.length : Int)) (hT 19 rfl rfl hG) (hT 21 rfl rfl hG) ⟨Ext.refl _, fun _ => rfl⟩
 exact Ap fun aq wq _ hO hR hT => does_and (B := decide ((k : Int) < (p.length : Int))) (X := decide ((k : Int) < (q.length : Int))) (hT 18 rfl rfl) (fun hB => (hT 22 rfl rfl hB)) rfl eR
 intro a4 wd4 N4 D4 hO hR hA hU
 obtain ⟨_, _, _, _, _, _, _, _, _, t23, _⟩ := hA
 have E4 := E3.trans hR
 have s0_4 := oT hO s0_3 rfl
 have s2_4 := oT hO s2_3 rfl
 have s4_4 := oT hO s4_3 rfl
 have s6_4 := oT hO s6_3 rfl
 have s8_4 := oT hO s8_3 rfl
 have s11_4 := oT hO s11_3 rfl
 have B6_4 := B6_3.ext' hR
 have B8_4 := B8_3.ext' hR
 have X1_4 := X1_3.ext' hR
 have X2_4 := X2_3.ext' hR
 have s23_4 : get a4 23 = Value.bool ((decide ((k : Int) < (p.length : Int))) && (decide ((k : Int) < (q.length : Int)))) := t23
 clear E3 N3 D3 s0_3 s2_3 s4_3 s6_3 s8_3 s11_3 B6_3 B8_3 X1_3 X2_3
 refine tail_nil ?_
 refine wp_if (B := (decide ((k : Int) < (p.length : Int))) && (decide ((k : Int) < (q.length : Int)))) s23_4 (fun hc0 => ?_) (fun hc0 => ?_)
 obtain ⟨hk1, hk2⟩ : (k : Int) < (p.length : Int) ∧ (k : Int) < (q.length : Int) := by simpa using hc0
 obtain ⟨d, hd⟩ := get_of_lt (l := p) (k := k) (by omega)
 obtain ⟨e, he⟩ := get_of_lt (l := q) (k := k) (by omega)
 refine wp_skip ?_
 refine wp_seq ?_
 refine wp_block ?_
 refine wp_seq ?_
 refine Ra [12] [(26, Pr.ex (Dg.val (y))), (27, Pr.ex (x1)), (28, Pr.ex (i64 (k : Int))), (29, Pr.pt' 0 (w0.heap.size + 1) [w32 (d).a, w32 (d).b, w32 (d).c, w32 (d).d]), (30, Pr.ex (Dg.val (d))), (31, Pr.ex (Value.agg #[w32 (y).a, w32 (y).b, w32 (y).c, w32 (y).d, w32 (d).a, w32 (d).b, w32 (d).c, w32 (d).d])), (12, Pr.box' wd4.heap.size 62 [w32 (Dg.zero).a, w32 (Dg.zero).b, w32 (Dg.zero).c, w32 (Dg.zero).d, w32 (Dg.zero).a, w32 (Dg.zero).b, w32 (Dg.zero).c, w32 (Dg.zero).d])] 7 mixed N4 D4 ?_ ?_
 refine Ac ?_ (Ac ?_ (Ac ?_ (Ac ?_ (Ac ?_ (Ac ?_ (Ac ?_ (Az _)))))))
 exact Ad fun aq wq _ hO hR hT => does_loadD (o := 0) (n := 4) (mid := [w32 (y).a, w32 (y).b, w32 (y).c, w32 (y).d]) (oT hO s6_4 rfl) (B6_4.ext' hR) rfl rfl (nB rfl) row_24 rfl eR
 exact Am s2_4 rfl fun _ => rfl
 exact Am s11_4 rfl fun _ => rfl
 exact Ad fun aq wq _ hO hR hT => does_indexSl (T := DG) (xs := p) (i := (k : Int)) (X := d) sli_27 rfl (SlT.at (hT 27 rfl rfl) (X1_4.ext' hR)) (hT 28 rfl rfl) (by omega) hd (fun v h => ⟨Ext.refl _, h⟩)
 exact Ad fun aq wq _ hO hR hT => does_loadP (cs := [w32 (d).a, w32 (d).b, w32 (d).c, w32 (d).d]) (hT 29 rfl rfl) row_24 rfl eR
 exact Ad fun aq wq _ hO hR hT => does_build (vs := #[(0, Dg.val (y)), (1, Dg.val (d))]) (V := Value.agg #[w32 (y).a, w32 (y).b, w32 (y).c, w32 (y).d, w32 (d).a, w32 (d).b, w32 (d).c, w32 (d).d]) (parts2 (hT 26 rfl rfl) (hT 30 rfl rfl)) (by kernel_rfl) eR
 refine Ask.fresh rfl rfl ?_
 intro aq wq hNq hO hR hT
 replace hR := (Ext.drew _).trans hR
 exact does_alloc zero_62 (fun b w2 he hlo hb => ⟨he, ⟨b, rfl, Nat.le_trans hR.size' hlo, hb⟩, ⟨b, rfl, hlo, hb.lt⟩⟩)
 intro a5 wd5 N5 D5 hO hR hA hU
 obtain ⟨_, _, _, _, _, t31, t12, _⟩ := hA
 have E5 := E4.trans hR
 have s0_5 := oT hO s0_4 rfl
 have s2_5 := oT hO s2_4 rfl
 have s4_5 := oT hO s4_4 rfl
 have s6_5 := oT hO s6_4 rfl
 have s8_5 := oT hO s8_4 rfl
 have s11_5 := oT hO s11_4 rfl
 have B6_5 := B6_4.ext' hR
 have B8_5 := B8_4.ext' hR
 have X1_5 := X1_4.ext' hR
 have X2_5 := X2_4.ext' hR
 have s31_5 : get a5 31 = Value.agg #[w32 (y).a, w32 (y).b, w32 (y).c, w32 (y).d, w32 (d).a, w32 (d).b, w32 (d).c, w32 (d).d] := t31
 obtain ⟨b12, s12_5, lo_b12, B12_5⟩ := t12
 have ne_b6_b12 := Hl B6_4 lo_b12
 have ne_b8_b12 := Hl B8_4 lo_b12
 have nb_x1_b12 := SlT.old X1_4 lo_b12
 have nb_x2_b12 := SlT.old X2_4 lo_b12
 have fr_b12 : w0.heap.size ≤ b12 := Nat.le_trans E4.size' lo_b12
 clear E4 N4 D4 s0_4 s2_4 s4_4 s6_4 s8_4 s11_4 s23_4 B6_4 B8_4 X1_4 X2_4
 refine tail_none rfl rfl (does_storeD (o := 0) (n := 8) (cs' := [w32 (y).a, w32 (y).b, w32 (y).c, w32 (y).d, w32 (d).a, w32 (d).b, w32 (d).c, w32 (d).d]) (V := Value.agg #[w32 (y).a, w32 (y).b, w32 (y).c, w32 (y).d, w32 (d).a, w32 (d).b, w32 (d).c, w32 (d).d]) s12_5 s31_5 B12_5 (nB rfl) rfl siz_62 rfl rfl (fun wd6 hX hz B12_6 => ?_))
 have E6 := E5.since hX (fun k e => e ▸ fr_b12)
 have B6_6 := B6_5.ext hX ne_b6_b12
 have B8_6 := B8_5.ext hX ne_b8_b12
 have X1_6 := SlT.over X1_5 hX nb_x1_b12
 have X2_6 := SlT.over X2_5 hX nb_x2_b12
 clear hX hz E5 B6_5 B8_5 B12_5 X1_5 X2_5
 refine tail_nil ?_
 refine wp_seq ?_
 refine Ra [13] [(32, Pr.ex (Dg.val (z))), (33, Pr.ex (x2)), (34, Pr.ex (i64 (k : Int))), (35, Pr.pt' 0 (w0.heap.size + 1) [w32 (e).a, w32 (e).b, w32 (e).c, w32 (e).d]), (36, Pr.ex (Dg.val (e))), (37, Pr.ex (Value.agg #[w32 (z).a, w32 (z).b, w32 (z).c, w32 (z).d, w32 (e).a, w32 (e).b, w32 (e).c, w32 (e).d])), (13, Pr.box' wd6.heap.size 62 [w32 (Dg.zero).a, w32 (Dg.zero).b, w32 (Dg.zero).c, w32 (Dg.zero).d, w32 (Dg.zero).a, w32 (Dg.zero).b, w32 (Dg.zero).c, w32 (Dg.zero).d])] 7 mixed N5 D5 ?_ ?_
 refine Ac ?_ (Ac ?_ (Ac ?_ (Ac ?_ (Ac ?_ (Ac ?_ (Ac ?_ (Az _)))))))
 exact Ad fun aq wq _ hO hR hT => does_loadD (o := 0) (n := 4) (mid := [w32 (z).a, w32 (z).b, w32 (z).c, w32 (z).d]) (oT hO s8_5 rfl) (B8_6.ext' hR) rfl rfl (nB rfl) row_24 rfl eR
 exact Am s4_5 rfl fun _ => rfl
 exact Am s11_5 rfl fun _ => rfl
 exact Ad fun aq wq _ hO hR hT => does_indexSl (T := DG) (xs := q) (i := (k : Int)) (X := e) sli_27 rfl (SlT.at (hT 33 rfl rfl) (X2_6.ext' hR)) (hT 34 rfl rfl) (by omega) he (fun v h => ⟨Ext.refl _, h⟩)
 exact Ad fun aq wq _ hO hR hT => does_loadP (cs := [w32 (e).a, w32 (e).b, w32 (e).c, w32 (e).d]) (hT 35 rfl rfl) row_24 rfl eR
 exact Ad fun aq wq _ hO hR hT => does_build (vs := #[(0, Dg.val (z)), (1, Dg.val (e))]) (V := Value.agg #[w32 (z).a, w32 (z).b, w32 (z).c, w32 (z).d, w32 (e).a, w32 (e).b, w32 (e).c, w32 (e).d]) (parts2 (hT 32 rfl rfl) (hT 36 rfl rfl)) (by kernel_rfl) eR
 refine Ask.fresh rfl rfl ?_
 intro aq wq hNq hO hR hT
 replace hR := (Ext.drew _).trans hR
 exact does_alloc zero_62 (fun b w2 he hlo hb => ⟨he, ⟨b, rfl, Nat.le_trans hR.size' hlo, hb⟩, ⟨b, rfl, hlo, hb.lt⟩⟩)
 intro a7 wd7 N7 D7 hO hR hA hU
 obtain ⟨_, _, _, _, _, t37, t13, _⟩ := hA
 have E7 := E6.trans hR
 have s0_7 := oT hO s0_5 rfl
 have s2_7 := oT hO s2_5 rfl
 have s4_7 := oT hO s4_5 rfl
 have s6_7 := oT hO s6_5 rfl
 have s8_7 := oT hO s8_5 rfl
 have s11_7 := oT hO s11_5 rfl
 have s12_7 := oT hO s12_5 rfl
 have B6_7 := B6_6.ext' hR
 have B8_7 := B8_6.ext' hR
 have B12_7 := B12_6.ext' hR
 have X1_7 := X1_6.ext' hR
 have X2_7 := X2_6.ext' hR
 have s37_7 : get a7 37 = Value.agg #[w32 (z).a, w32 (z).b, w32 (z).c, w32 (z).d, w32 (e).a, w32 (e).b, w32 (e).c, w32 (e).d] := t37
 obtain ⟨b13, s13_7, lo_b13, B13_7⟩ := t13
 have ne_b6_b13 := Hl B6_6 lo_b13
 have ne_b8_b13 := Hl B8_6 lo_b13
 have ne_b12_b13 := Hl B12_6 lo_b13
 have nb_x1_b13 := SlT.old X1_6 lo_b13
 have nb_x2_b13 := SlT.old X2_6 lo_b13
 have fr_b13 : w0.heap.size ≤ b13 := Nat.le_trans E6.size' lo_b13
 clear E6 N5 D5 s0_5 s2_5 s4_5 s6_5 s8_5 s11_5 s12_5 s31_5 B6_6 B8_6 B12_6 X1_6 X2_6
 refine tail_none rfl rfl (does_storeD (o := 0) (n := 8) (cs' := [w32 (z).a, w32 (z).b, w32 (z).c, w32 (z).d, w32 (e).a, w32 (e).b, w32 (e).c, w32 (e).d]) (V := Value.agg #[w32 (z).a, w32 (z).b, w32 (z).c, w32 (z).d, w32 (e).a, w32 (e).b, w32 (e).c, w32 (e).d]) s13_7 s37_7 B13_7 (nB rfl) rfl siz_62 rfl rfl (fun wd8 hX hz B13_8 => ?_))
 have E8 := E7.since hX (fun k e => e ▸ fr_b13)
 have B6_8 := B6_7.ext hX ne_b6_b13
 have B8_8 := B8_7.ext hX ne_b8_b13
 have B12_8 := B12_7.ext hX ne_b12_b13
 have X1_8 := SlT.over X1_7 hX nb_x1_b13
 have X2_8 := SlT.over X2_7 hX nb_x2_b13
 clear hX hz E7 B6_7 B8_7 B12_7 B13_7 X1_7 X2_7
 refine tail_nil ?_
 refine wp_seq ?_
 refine wp_seq ?_
 refine Rl [] [(38, Pr.ex (i64 (i : Int))), (39, Pr.ex (i64 ((i % 2 : Nat) : Int))), (40, Pr.ex (Value.bool (decide (((i % 2 : Nat) : Int) = ((1 : Nat) : Int)))))] 3 N7 D7 ?_ ?_
 refine Ac ?_ (Ac ?_ (Ac ?_ (Az _)))
 exact Am s0_7 rfl fun _ => rfl
 exact Ap fun aq wq _ hO hR hT => does_rem (k := .i64) (a := (i : Int)) (b := ((2 : Nat) : Int)) (r := ((i % 2 : Nat) : Int)) (hT 38 rfl rfl) rfl (by omega) (by omega) (by omega) eR
 exact Ap fun aq wq _ hO hR hT => does_eql (a := ((i % 2 : Nat) : Int)) (b := ((1 : Nat) : Int)) (hT 39 rfl rfl) rfl eR
 intro a9 wd9 N9 D9 hO hR hA hU
 obtain ⟨_, _, t40, _⟩ := hA
 have E9 := E8.trans hR
 have s0_9 := oT hO s0_7 rfl
 have s2_9 := oT hO s2_7 rfl
 have s4_9 := oT hO s4_7 rfl
 have s6_9 := oT hO s6_7 rfl
 have s8_9 := oT hO s8_7 rfl
 have s11_9 := oT hO s11_7 rfl
 have s12_9 := oT hO s12_7 rfl
 have s13_9 := oT hO s13_7 rfl
 have B6_9 := B6_8.ext' hR
 have B8_9 := B8_8.ext' hR
 have B12_9 := B12_8.ext' hR
 have B13_9 := B13_8.ext' hR
 have X1_9 := X1_8.ext' hR
 have X2_9 := X2_8.ext' hR
 have s40_9 : get a9 40 = Value.bool (decide (((i % 2 : Nat) : Int) = ((1 : Nat) : Int))) := t40
 clear E8 N7 D7 s0_7 s2_7 s4_7 s6_7 s8_7 s11_7 s12_7 s13_7 s37_7 B6_8 B8_8 B12_8 B13_8 X1_8 X2_8
 refine tail_nil ?_
 refine wp_if (B := decide (((i % 2 : Nat) : Int) = ((1 : Nat) : Int))) s40_9 (fun hc1 => ?_) (fun hc1 => ?_)
 have hc1 := of_decide_eq_true hc1
 have ho : i % 2 = 1 := by omega
 refine wp_seq ?_
 refine Ra [] [(41, Pr.ex (x1)), (42, Pr.ex (i64 (k : Int))), (43, Pr.pt' 0 (w0.heap.size + 1) [w32 (d).a, w32 (d).b, w32 (d).c, w32 (d).d]), (44, Pr.ex (Dg.val (d))), (45, Pr.ex (Dg.val (y))), (46, Pr.ex (Value.agg #[w32 (d).a, w32 (d).b, w32 (d).c, w32 (d).d, w32 (y).a, w32 (y).b, w32 (y).c, w32 (y).d]))] 6 mixed N9 D9 ?_ ?_
 refine Ac ?_ (Ac ?_ (Ac ?_ (Ac ?_ (Ac ?_ (Ac ?_ (Az _))))))
 exact Am s2_9 rfl fun _ => rfl
 exact Am s11_9 rfl fun _ => rfl
 exact Ad fun aq wq _ hO hR hT => does_indexSl (T := DG) (xs := p) (i := (k : Int)) (X := d) sli_27 rfl (SlT.at (hT 41 rfl rfl) (X1_9.ext' hR)) (hT 42 rfl rfl) (by omega) hd (fun v h => ⟨Ext.refl _, h⟩)
 exact Ad fun aq wq _ hO hR hT => does_loadP (cs := [w32 (d).a, w32 (d).b, w32 (d).c, w32 (d).d]) (hT 43 rfl rfl) row_24 rfl eR
 exact Ad fun aq wq _ hO hR hT => does_loadD (o := 0) (n := 4) (mid := [w32 (y).a, w32 (y).b, w32 (y).c, w32 (y).d]) (oT hO s6_9 rfl) (B6_9.ext' hR) rfl rfl (nB rfl) row_24 rfl eR
 exact Ad fun aq wq _ hO hR hT => does_build (vs := #[(0, Dg.val (d)), (1, Dg.val (y))]) (V := Value.agg #[w32 (d).a, w32 (d).b, w32 (d).c, w32 (d).d, w32 (y).a, w32 (y).b, w32 (y).c, w32 (y).d]) (parts2 (hT 44 rfl rfl) (hT 45 rfl rfl)) (by kernel_rfl) eR
 intro a10 wd10 N10 D10 hO hR hA hU
 obtain ⟨_, _, _, _, _, t46, _⟩ := hA
 have E10 := E9.trans hR
 have s0_10 := oT hO s0_9 rfl
 have s2_10 := oT hO s2_9 rfl
 have s4_10 := oT hO s4_9 rfl
 have s6_10 := oT hO s6_9 rfl
 have s8_10 := oT hO s8_9 rfl
 have s11_10 := oT hO s11_9 rfl
 have s12_10 := oT hO s12_9 rfl
 have s13_10 := oT hO s13_9 rfl
 have B6_10 := B6_9.ext' hR
 have B8_10 := B8_9.ext' hR
 have B12_10 := B12_9.ext' hR
 have B13_10 := B13_9.ext' hR
 have X1_10 := X1_9.ext' hR
 have X2_10 := X2_9.ext' hR
 have s46_10 : get a10 46 = Value.agg #[w32 (d).a, w32 (d).b, w32 (d).c, w32 (d).d, w32 (y).a, w32 (y).b, w32 (y).c, w32 (y).d] := t46
 clear E9 N9 D9 s0_9 s2_9 s4_9 s6_9 s8_9 s11_9 s12_9 s13_9 s40_9 B6_9 B8_9 B12_9 B13_9 X1_9 X2_9
 refine tail_none rfl rfl (does_storeD (o := 0) (n := 8) (cs' := [w32 (d).a, w32 (d).b, w32 (d).c, w32 (d).d, w32 (y).a, w32 (y).b, w32 (y).c, w32 (y).d]) (V := Value.agg #[w32 (d).a, w32 (d).b, w32 (d).c, w32 (d).d, w32 (y).a, w32 (y).b, w32 (y).c, w32 (y).d]) s12_10 s46_10 B12_10 (nB rfl) rfl siz_62 rfl rfl (fun wd11 hX hz B12_11 => ?_))
 have E11 := E10.since hX (fun k e => e ▸ fr_b12)
 have B6_11 := B6_10.ext hX ne_b6_b12
 have B8_11 := B8_10.ext hX ne_b8_b12
 have B13_11 := B13_10.ext hX ne_b12_b13.symm
 have X1_11 := SlT.over X1_10 hX nb_x1_b12
 have X2_11 := SlT.over X2_10 hX nb_x2_b12
 clear hX hz E10 B6_10 B8_10 B12_10 B13_10 X1_10 X2_10
 refine tail_nil ?_
 refine Ra [] [(47, Pr.ex (x2)), (48, Pr.ex (i64 (k : Int))), (49, Pr.pt' 0 (w0.heap.size + 1) [w32 (e).a, w32 (e).b, w32 (e).c, w32 (e).d]), (50, Pr.ex (Dg.val (e))), (51, Pr.ex (Dg.val (z))), (52, Pr.ex (Value.agg #[w32 (e).a, w32 (e).b, w32 (e).c, w32 (e).d, w32 (z).a, w32 (z).b, w32 (z).c, w32 (z).d]))] 6 mixed N10 D10 ?_ ?_
 refine Ac ?_ (Ac ?_ (Ac ?_ (Ac ?_ (Ac ?_ (Ac ?_ (Az _))))))
 exact Am s4_10 rfl fun _ => rfl
 exact Am s11_10 rfl fun _ => rfl
 exact Ad fun aq wq _ hO hR hT => does_indexSl (T := DG) (xs := q) (i := (k : Int)) (X := e) sli_27 rfl (SlT.at (hT 47 rfl rfl) (X2_11.ext' hR)) (hT 48 rfl rfl) (by omega) he (fun v h => ⟨Ext.refl _, h⟩)
 exact Ad fun aq wq _ hO hR hT => does_loadP (cs := [w32 (e).a, w32 (e).b, w32 (e).c, w32 (e).d]) (hT 49 rfl rfl) row_24 rfl eR
 exact Ad fun aq wq _ hO hR hT => does_loadD (o := 0) (n := 4) (mid := [w32 (z).a, w32 (z).b, w32 (z).c, w32 (z).d]) (oT hO s8_10 rfl) (B8_11.ext' hR) rfl rfl (nB rfl) row_24 rfl eR
 exact Ad fun aq wq _ hO hR hT => does_build (vs := #[(0, Dg.val (e)), (1, Dg.val (z))]) (V := Value.agg #[w32 (e).a, w32 (e).b, w32 (e).c, w32 (e).d, w32 (z).a, w32 (z).b, w32 (z).c, w32 (z).d]) (parts2 (hT 50 rfl rfl) (hT 51 rfl rfl)) (by kernel_rfl) eR
 intro a12 wd12 N12 D12 hO hR hA hU
 obtain ⟨_, _, _, _, _, t52, _⟩ := hA
 have E12 := E11.trans hR
 have s0_12 := oT hO s0_10 rfl
 have s2_12 := oT hO s2_10 rfl
 have s4_12 := oT hO s4_10 rfl
 have s6_12 := oT hO s6_10 rfl
 have s8_12 := oT hO s8_10 rfl
 have s11_12 := oT hO s11_10 rfl
 have s12_12 := oT hO s12_10 rfl
 have s13_12 := oT hO s13_10 rfl
 have B6_12 := B6_11.ext' hR
 have B8_12 := B8_11.ext' hR
 have B12_12 := B12_11.ext' hR
 have B13_12 := B13_11.ext' hR
 have X1_12 := X1_11.ext' hR
 have X2_12 := X2_11.ext' hR
 have s52_12 : get a12 52 = Value.agg #[w32 (e).a, w32 (e).b, w32 (e).c, w32 (e).d, w32 (z).a, w32 (z).b, w32 (z).c, w32 (z).d] := t52
 clear E11 N10 D10 s0_10 s2_10 s4_10 s6_10 s8_10 s11_10 s12_10 s13_10 s46_10 B6_11 B8_11 B12_11 B13_11 X1_11 X2_11
 refine tail_none rfl rfl (does_storeD (o := 0) (n := 8) (cs' := [w32 (e).a, w32 (e).b, w32 (e).c, w32 (e).d, w32 (z).a, w32 (z).b, w32 (z).c, w32 (z).d]) (V := Value.agg #[w32 (e).a, w32 (e).b, w32 (e).c, w32 (e).d, w32 (z).a, w32 (z).b, w32 (z).c, w32 (z).d]) s13_12 s52_12 B13_12 (nB rfl) rfl siz_62 rfl rfl (fun wd13 hX hz B13_13 => ?_))
 have E13 := E12.since hX (fun k e => e ▸ fr_b13)
 have B6_13 := B6_12.ext hX ne_b6_b13
 have B8_13 := B8_12.ext hX ne_b8_b13
 have B12_13 := B12_12.ext hX ne_b12_b13
 have X1_13 := SlT.over X1_12 hX nb_x1_b13
 have X2_13 := SlT.over X2_12 hX nb_x2_b13
 clear hX hz E12 B6_12 B8_12 B12_12 B13_12 X1_12 X2_12
 refine tail_nil ?_
 refine wp_seq ?_
 refine Rl [] [(53, Pr.ex (i64 (i : Int))), (54, Pr.ex (i64 ((i / 2 : Nat) : Int)))] 2 N12 D12 ?_ ?_
 refine Ac ?_ (Ac ?_ (Az _))
 exact Am s0_12 rfl fun _ => rfl
 exact Ap fun aq wq _ hO hR hT => does_quo (a := (i : Int)) (b := ((2 : Nat) : Int)) (r := ((i / 2 : Nat) : Int)) (hT 53 rfl rfl) rfl (by omega) (by omega) (by omega) (by omega) eR
 intro a14 wd14 N14 D14 hO hR hA hU
 obtain ⟨_, t54, _⟩ := hA
 have E14 := E13.trans hR
 have s0_14 := oT hO s0_12 rfl
 have s2_14 := oT hO s2_12 rfl
 have s4_14 := oT hO s4_12 rfl
 have s6_14 := oT hO s6_12 rfl
 have s8_14 := oT hO s8_12 rfl
 have s11_14 := oT hO s11_12 rfl
 have s12_14 := oT hO s12_12 rfl
 have s13_14 := oT hO s13_12 rfl
 have B6_14 := B6_13.ext' hR
 have B8_14 := B8_13.ext' hR
 have B12_14 := B12_13.ext' hR
 have B13_14 := B13_13.ext' hR
 have X1_14 := X1_13.ext' hR
 have X2_14 := X2_13.ext' hR
 have s54_14 : get a14 54 = i64 ((i / 2 : Nat) : Int) := t54
 clear E13 N12 D12 s0_12 s2_12 s4_12 s6_12 s8_12 s11_12 s12_12 s13_12 s52_12 B6_13 B8_13 B12_13 B13_13 X1_13 X2_13
 refine tail_put rfl rfl N14 D14 (by decide) (does_assign (V := i64 ((i / 2 : Nat) : Int)) s54_14 (fun a15 N15 D15 hv hO => ?_))
 have s0_15 := hv
 have s2_15 := oT hO s2_14 rfl
 have s4_15 := oT hO s4_14 rfl
 have s6_15 := oT hO s6_14 rfl
 have s8_15 := oT hO s8_14 rfl
 have s11_15 := oT hO s11_14 rfl
 have s12_15 := oT hO s12_14 rfl
 have s13_15 := oT hO s13_14 rfl
 clear hO hv N14 D14 s2_14 s4_14 s6_14 s8_14 s11_14 s12_14 s13_14 s54_14 s0_14
 refine tail_nil ?_
 refine wp_seq ?_
 refine Rl [] [(55, Pr.ex (Value.pointer (some ⟨b12, 0, none⟩))), (56, Pr.ex (Dg.val (d))), (57, Pr.ex (Value.pointer (some ⟨b12, 4, none⟩))), (58, Pr.ex (Dg.val (y))), (59, Pr.ex (Dg.val (pair d y)))] 5 N15 D15 ?_ ?_
 refine Ac ?_ (Ac ?_ (Ac ?_ (Ac ?_ (Ac ?_ (Az _)))))
 exact Ap fun aq wq _ hO hR hT => does_indexArr (k := .i64) (i := 0) (o' := 0) arr_62 (oT hO s12_15 rfl) rfl (by decide) (by decide) rfl eR
 exact Ap fun aq wq _ hO hR hT => does_loadD (o := 0) (n := 4) (mid := [w32 (d).a, w32 (d).b, w32 (d).c, w32 (d).d]) (hT 55 rfl rfl) (B12_14.ext' hR) rfl rfl (nB rfl) row_24 rfl eR
 exact Ap fun aq wq _ hO hR hT => does_indexArr (k := .i64) (i := 1) (o' := 4) arr_62 (oT hO s12_15 rfl) rfl (by decide) (by decide) rfl eR
 exact Ap fun aq wq _ hO hR hT => does_loadD (o := 4) (n := 4) (mid := [w32 (y).a, w32 (y).b, w32 (y).c, w32 (y).d]) (hT 57 rfl rfl) (B12_14.ext' hR) rfl rfl (nB rfl) row_24 rfl eR
 exact Ap fun aq wq _ hO hR hT => does_ret (vs := #[Dg.val (d), Dg.val (y)]) call_35 (args2 (hT 56 rfl rfl) (hT 58 rfl rfl)) rfl ((pairR (d) (y) wq).mono fun v w2 h => ⟨h.2, h.1⟩)
 intro a16 wd16 N16 D16 hO hR hA hU
 obtain ⟨_, _, _, _, t59, _⟩ := hA
 have E16 := E14.trans hR
 have s0_16 := oT hO s0_15 rfl
 have s2_16 := oT hO s2_15 rfl
 have s4_16 := oT hO s4_15 rfl
 have s6_16 := oT hO s6_15 rfl
 have s8_16 := oT hO s8_15 rfl
 have s11_16 := oT hO s11_15 rfl
 have s12_16 := oT hO s12_15 rfl
 have s13_16 := oT hO s13_15 rfl
 have B6_16 := B6_14.ext' hR
 have B8_16 := B8_14.ext' hR
 have B12_16 := B12_14.ext' hR
 have B13_16 := B13_14.ext' hR
 have X1_16 := X1_14.ext' hR
 have X2_16 := X2_14.ext' hR
 have s59_16 : get a16 59 = Dg.val (pair d y) := t59
 clear E14 N15 D15 s0_15 s2_15 s4_15 s6_15 s8_15 s11_15 s12_15 s13_15 B6_14 B8_14 B12_14 B13_14 X1_14 X2_14
 refine tail_none rfl rfl (does_storeD (o := 0) (n := 4) (cs' := [w32 (pair d y).a, w32 (pair d y).b, w32 (pair d y).c, w32 (pair d y).d]) (V := Dg.val (pair d y)) s6_16 s59_16 B6_16 (nB rfl) rfl siz_24 rfl rfl (fun wd17 hX hz B6_17 => ?_))
 have E17 := E16.since hX (fun k e => e ▸ fr_b6)
 have B8_17 := B8_16.ext hX ne_b6_b8.symm
 have B12_17 := B12_16.ext hX ne_b6_b12.symm
 have B13_17 := B13_16.ext hX ne_b6_b13.symm
 have X1_17 := SlT.over X1_16 hX nb_x1_b6
 have X2_17 := SlT.over X2_16 hX nb_x2_b6
 clear hX hz E16 B6_16 B8_16 B12_16 B13_16 X1_16 X2_16
 refine tail_nil ?_
 refine wp_seq ?_
 refine Rl [] [(60, Pr.ex (Value.pointer (some ⟨b13, 0, none⟩))), (61, Pr.ex (Dg.val (e))), (62, Pr.ex (Value.pointer (some ⟨b13, 4, none⟩))), (63, Pr.ex (Dg.val (z))), (64, Pr.ex (Dg.val (pair e z)))] 5 N16 D16 ?_ ?_
 refine Ac ?_ (Ac ?_ (Ac ?_ (Ac ?_ (Ac ?_ (Az _)))))
 exact Ap fun aq wq _ hO hR hT => does_indexArr (k := .i64) (i := 0) (o' := 0) arr_62 (oT hO s13_16 rfl) rfl (by decide) (by decide) rfl eR
 exact Ap fun aq wq _ hO hR hT => does_loadD (o := 0) (n := 4) (mid := [w32 (e).a, w32 (e).b, w32 (e).c, w32 (e).d]) (hT 60 rfl rfl) (B13_17.ext' hR) rfl rfl (nB rfl) row_24 rfl eR
 exact Ap fun aq wq _ hO hR hT => does_indexArr (k := .i64) (i := 1) (o' := 4) arr_62 (oT hO s13_16 rfl) rfl (by decide) (by decide) rfl eR
 exact Ap fun aq wq _ hO hR hT => does_loadD (o := 4) (n := 4) (mid := [w32 (z).a, w32 (z).b, w32 (z).c, w32 (z).d]) (hT 62 rfl rfl) (B13_17.ext' hR) rfl rfl (nB rfl) row_24 rfl eR
 exact Ap fun aq wq _ hO hR hT => does_ret (vs := #[Dg.val (e), Dg.val (z)]) call_35 (args2 (hT 61 rfl rfl) (hT 63 rfl rfl)) rfl ((pairR (e) (z) wq).mono fun v w2 h => ⟨h.2, h.1⟩)
 intro a18 wd18 N18 D18 hO hR hA hU
 obtain ⟨_, _, _, _, t64, _⟩ := hA
 have E18 := E17.trans hR
 have s0_18 := oT hO s0_16 rfl
 have s2_18 := oT hO s2_16 rfl
 have s4_18 := oT hO s4_16 rfl
 have s6_18 := oT hO s6_16 rfl
 have s8_18 := oT hO s8_16 rfl
 have s11_18 := oT hO s11_16 rfl
 have s12_18 := oT hO s12_16 rfl
 have s13_18 := oT hO s13_16 rfl
 have B6_18 := B6_17.ext' hR
 have B8_18 := B8_17.ext' hR
 have B12_18 := B12_17.ext' hR
 have B13_18 := B13_17.ext' hR
 have X1_18 := X1_17.ext' hR
 have X2_18 := X2_17.ext' hR
 have s64_18 : get a18 64 = Dg.val (pair e z) := t64
 clear E17 N16 D16 s0_16 s2_16 s4_16 s6_16 s8_16 s11_16 s12_16 s13_16 s59_16 B6_17 B8_17 B12_17 B13_17 X1_17 X2_17
 refine tail_none rfl rfl (does_storeD (o := 0) (n := 4) (cs' := [w32 (pair e z).a, w32 (pair e z).b, w32 (pair e z).c, w32 (pair e z).d]) (V := Dg.val (pair e z)) s8_18 s64_18 B8_18 (nB rfl) rfl siz_24 rfl rfl (fun wd19 hX hz B8_19 => ?_))
 have E19 := E18.since hX (fun k e => e ▸ fr_b8)
 have B6_19 := B6_18.ext hX ne_b6_b8
 have B12_19 := B12_18.ext hX ne_b8_b12.symm
 have B13_19 := B13_18.ext hX ne_b8_b13.symm
 have X1_19 := SlT.over X1_18 hX nb_x1_b8
 have X2_19 := SlT.over X2_18 hX nb_x2_b8
 clear hX hz E18 B6_18 B8_18 B12_18 B13_18 X1_18 X2_18
 refine tail_nil ?_
 refine wp_seq ?_
 refine Rl [] [(65, Pr.ex (Value.agg #[w32 (d).a, w32 (d).b, w32 (d).c, w32 (d).d, w32 (y).a, w32 (y).b, w32 (y).c, w32 (y).d])), (66, Pr.ex (Value.agg #[w32 (e).a, w32 (e).b, w32 (e).c, w32 (e).d, w32 (z).a, w32 (z).b, w32 (z).c, w32 (z).d])), (67, Pr.ex (Value.bool (!decide (((d, y) : Two) = ((e, z) : Two))))), (68, Pr.ex (Value.bool (!decide (((d, y) : Two) = ((e, z) : Two))))), (69, Pr.ifb (!decide (((d, y) : Two) = ((e, z) : Two))) (Pr.ex (Dg.val (pair d y)))), (70, Pr.ifb (!decide (((d, y) : Two) = ((e, z) : Two))) (Pr.ex (Dg.val (pair e z)))), (71, Pr.ifb (!decide (((d, y) : Two) = ((e, z) : Two))) (Pr.ex (Value.bool (decide (pair d y = pair e z))))), (72, Pr.ex (Value.bool ((!decide (((d, y) : Two) = ((e, z) : Two))) && (decide (pair d y = pair e z)))))] 8 N18 D18 ?_ ?_
 refine Ac ?_ (Ac ?_ (Ac ?_ (Ac ?_ (Ac ?_ (Ac ?_ (Ac ?_ (Ac ?_ (Az _))))))))
 exact Ap fun aq wq _ hO hR hT => does_loadD (o := 0) (n := 8) (mid := [w32 (d).a, w32 (d).b, w32 (d).c, w32 (d).d, w32 (y).a, w32 (y).b, w32 (y).c, w32 (y).d]) (oT hO s12_18 rfl) (B12_19.ext' hR) rfl rfl (nB rfl) row_62 rfl eR
 exact Ap fun aq wq _ hO hR hT => does_loadD (o := 0) (n := 8) (mid := [w32 (e).a, w32 (e).b, w32 (e).c, w32 (e).d, w32 (z).a, w32 (z).b, w32 (z).c, w32 (z).d]) (oT hO s13_18 rfl) (B13_19.ext' hR) rfl rfl (nB rfl) row_62 rfl eR
 exact Ap fun aq wq _ hO hR hT => does_neT (a := ((d, y) : Two)) (b := ((e, z) : Two)) eq_62 (hT 65 rfl rfl) (hT 66 rfl rfl) eR
 exact Ap fun aq wq _ hO hR hT => does_move (V := Value.bool (!decide (((d, y) : Two) = ((e, z) : Two)))) (hT 67 rfl rfl) eR
 refine Ask.guarded (B := !decide (((d, y) : Two) = ((e, z) : Two))) (want := true) (t := 68) rfl rfl rfl rfl (by decide) (fun aq wq hO hR hT => hT 68 rfl rfl) (fun hG aq wq hNq hO hR hT => ?_) (fun hno _ => fun hc => absurd hc hno)
 exact does_loadD (o := 0) (n := 4) (mid := [w32 (pair d y).a, w32 (pair d y).b, w32 (pair d y).c, w32 (pair d y).d]) (oT hO s6_18 rfl) (B6_19.ext' hR) rfl rfl (nB rfl) row_24 rfl ⟨Ext.refl _, fun _ => rfl⟩
 refine Ask.guarded (B := !decide (((d, y) : Two) = ((e, z) : Two))) (want := true) (t := 68) rfl rfl rfl rfl (by decide) (fun aq wq hO hR hT => hT 68 rfl rfl) (fun hG aq wq hNq hO hR hT => ?_) (fun hno _ => fun hc => absurd hc hno)
 exact does_loadD (o := 0) (n := 4) (mid := [w32 (pair e z).a, w32 (pair e z).b, w32 (pair e z).c, w32 (pair e z).d]) (oT hO s8_18 rfl) (B8_19.ext' hR) rfl rfl (nB rfl) row_24 rfl ⟨Ext.refl _, fun _ => rfl⟩
 refine Ask.guarded (B := !decide (((d, y) : Two) = ((e, z) : Two))) (want := true) (t := 68) rfl rfl rfl rfl (by decide) (fun aq wq hO hR hT => hT 68 rfl rfl) (fun hG aq wq hNq hO hR hT => ?_) (fun hno _ => fun hc => absurd hc hno)
 exact does_eqT (a := pair d y) (b := pair e z) eq_24 (hT 69 rfl rfl hG) (hT 70 rfl rfl hG) ⟨Ext.refl _, fun _ => rfl⟩
 exact Ap fun aq wq _ hO hR hT => does_and (B := !decide (((d, y) : Two) = ((e, z) : Two))) (X := decide (pair d y = pair e z)) (hT 68 rfl rfl) (fun hB => (hT 71 rfl rfl hB)) rfl eR
 intro a20 wd20 N20 D20 hO hR hA hU
 obtain ⟨_, _, _, _, _, _, _, t72, _⟩ := hA
 have E20 := E19.trans hR
 have s0_20 := oT hO s0_18 rfl
 have s2_20 := oT hO s2_18 rfl
 have s4_20 := oT hO s4_18 rfl
 have s6_20 := oT hO s6_18 rfl
 have s8_20 := oT hO s8_18 rfl
 have s11_20 := oT hO s11_18 rfl
 have B6_20 := B6_19.ext' hR
 have B8_20 := B8_19.ext' hR
 have B12_20 := B12_19.ext' hR
 have B13_20 := B13_19.ext' hR
 have X1_20 := X1_19.ext' hR
 have X2_20 := X2_19.ext' hR
 have s72_20 : get a20 72 = Value.bool ((!decide (((d, y) : Two) = ((e, z) : Two))) && (decide (pair d y = pair e z))) := t72
 clear E19 N18 D18 s0_18 s2_18 s4_18 s6_18 s8_18 s11_18 s12_18 s13_18 s64_18 B6_19 B8_19 B12_19 B13_19 X1_19 X2_19
 refine tail_nil ?_
 refine wp_if (B := (!decide (((d, y) : Two) = ((e, z) : Two))) && (decide (pair d y = pair e z))) s72_20 (fun hc2 => ?_) (fun hc2 => ?_)
 refine wp_seq ?_
 refine Rl [] [(10, Pr.ex (Value.bool (true)))] 1 N20 D20 ?_ ?_
 refine Ac ?_ (Az _)
 exact Ap fun aq wq _ hO hR hT => does_assign (V := Value.bool (true)) rfl eR
 intro a21 wd21 N21 D21 hO hR hA hU
 obtain ⟨t10, _⟩ := hA
 have E21 := E20.trans hR
 have B6_21 := B6_20.ext' hR
 have B8_21 := B8_20.ext' hR
 have B12_21 := B12_20.ext' hR
 have B13_21 := B13_20.ext' hR
 have X1_21 := X1_20.ext' hR
 have X2_21 := X2_20.ext' hR
 have s10_21 : get a21 10 = Value.bool (true) := t10
 clear E20 N20 D20 s0_20 s2_20 s4_20 s6_20 s8_20 s11_20 s72_20 B6_20 B8_20 B12_20 B13_20 X1_20 X2_20
 refine tail_nil ?_
 refine wp_ret ?_
 refine res_one (V := Value.bool (true)) rfl D21 s10_21 ?_
 exact ⟨by show Value.bool _ = Value.bool _; rw [heq, clashK_hitO hd he ho (by simpa using hc2)], E21⟩
 refine wp_skip ?_
 refine Rl [] [(24, Pr.ex (i64 (k : Int))), (25, Pr.ex (i64 ((k + 1 : Nat) : Int)))] 2 N20 D20 ?_ ?_
 refine Ac ?_ (Ac ?_ (Az _))
 exact Am s11_20 rfl fun _ => rfl
 exact Ap fun aq wq _ hO hR hT => does_add (a := (k : Int)) (b := ((1 : Nat) : Int)) (r := ((k + 1 : Nat) : Int)) (hT 24 rfl rfl) rfl (by omega) (by omega) (by omega) eR
 intro a22 wd22 N22 D22 hO hR hA hU
 obtain ⟨_, t25, _⟩ := hA
 have E22 := E20.trans hR
 have s0_22 := oT hO s0_20 rfl
 have s2_22 := oT hO s2_20 rfl
 have s4_22 := oT hO s4_20 rfl
 have s6_22 := oT hO s6_20 rfl
 have s8_22 := oT hO s8_20 rfl
 have s11_22 := oT hO s11_20 rfl
 have B6_22 := B6_20.ext' hR
 have B8_22 := B8_20.ext' hR
 have B12_22 := B12_20.ext' hR
 have B13_22 := B13_20.ext' hR
 have X1_22 := X1_20.ext' hR
 have X2_22 := X2_20.ext' hR
 have s25_22 : get a22 25 = i64 ((k + 1 : Nat) : Int) := t25
 clear E20 N20 D20 s0_20 s2_20 s4_20 s6_20 s8_20 s11_20 s72_20 B6_20 B8_20 B12_20 B13_20 X1_20 X2_20
 refine tail_put rfl rfl N22 D22 (by decide) (does_assign (V := i64 ((k + 1 : Nat) : Int)) s25_22 (fun a23 N23 D23 hv hO => ?_))
 have s11_23 := hv
 have s0_23 := oT hO s0_22 rfl
 have s2_23 := oT hO s2_22 rfl
 have s4_23 := oT hO s4_22 rfl
 have s6_23 := oT hO s6_22 rfl
 have s8_23 := oT hO s8_22 rfl
 clear hO hv N22 D22 s0_22 s2_22 s4_22 s6_22 s8_22 s25_22 s11_22
 refine tail_nil ?_
 exact ⟨_, by omega, k + 1, i / 2, pair d y, pair e z, rfl, N23, D23, s0_23, s2_23, s4_23, s6_23, s8_23, s11_23, E22, B6_22, B8_22, X1_22, X2_22, by omega, heq.trans (clashK_stepO hd he ho (by simpa using hc2))⟩
 have hc1 := of_decide_eq_false hc1
 have ho : ¬ i % 2 = 1 := by omega
 refine wp_skip ?_
 refine wp_seq ?_
 refine Rl [] [(53, Pr.ex (i64 (i : Int))), (54, Pr.ex (i64 ((i / 2 : Nat) : Int)))] 2 N9 D9 ?_ ?_
 refine Ac ?_ (Ac ?_ (Az _))
 exact Am s0_9 rfl fun _ => rfl
 exact Ap fun aq wq _ hO hR hT => does_quo (a := (i : Int)) (b := ((2 : Nat) : Int)) (r := ((i / 2 : Nat) : Int)) (hT 53 rfl rfl) rfl (by omega) (by omega) (by omega) (by omega) eR
 intro a24 wd24 N24 D24 hO hR hA hU
 obtain ⟨_, t54, _⟩ := hA
 have E24 := E9.trans hR
 have s0_24 := oT hO s0_9 rfl
 have s2_24 := oT hO s2_9 rfl
 have s4_24 := oT hO s4_9 rfl
 have s6_24 := oT hO s6_9 rfl
 have s8_24 := oT hO s8_9 rfl
 have s11_24 := oT hO s11_9 rfl
 have s12_24 := oT hO s12_9 rfl
 have s13_24 := oT hO s13_9 rfl
 have B6_24 := B6_9.ext' hR
 have B8_24 := B8_9.ext' hR
 have B12_24 := B12_9.ext' hR
 have B13_24 := B13_9.ext' hR
 have X1_24 := X1_9.ext' hR
 have X2_24 := X2_9.ext' hR
 have s54_24 : get a24 54 = i64 ((i / 2 : Nat) : Int) := t54
 clear E9 N9 D9 s0_9 s2_9 s4_9 s6_9 s8_9 s11_9 s12_9 s13_9 s40_9 B6_9 B8_9 B12_9 B13_9 X1_9 X2_9
 refine tail_put rfl rfl N24 D24 (by decide) (does_assign (V := i64 ((i / 2 : Nat) : Int)) s54_24 (fun a25 N25 D25 hv hO => ?_))
 have s0_25 := hv
 have s2_25 := oT hO s2_24 rfl
 have s4_25 := oT hO s4_24 rfl
 have s6_25 := oT hO s6_24 rfl
 have s8_25 := oT hO s8_24 rfl
 have s11_25 := oT hO s11_24 rfl
 have s12_25 := oT hO s12_24 rfl
 have s13_25 := oT hO s13_24 rfl
 clear hO hv N24 D24 s2_24 s4_24 s6_24 s8_24 s11_24 s12_24 s13_24 s54_24 s0_24
 refine tail_nil ?_
 refine wp_seq ?_
 refine Rl [] [(55, Pr.ex (Value.pointer (some ⟨b12, 0, none⟩))), (56, Pr.ex (Dg.val (y))), (57, Pr.ex (Value.pointer (some ⟨b12, 4, none⟩))), (58, Pr.ex (Dg.val (d))), (59, Pr.ex (Dg.val (pair y d)))] 5 N25 D25 ?_ ?_
 refine Ac ?_ (Ac ?_ (Ac ?_ (Ac ?_ (Ac ?_ (Az _)))))
 exact Ap fun aq wq _ hO hR hT => does_indexArr (k := .i64) (i := 0) (o' := 0) arr_62 (oT hO s12_25 rfl) rfl (by decide) (by decide) rfl eR
 exact Ap fun aq wq _ hO hR hT => does_loadD (o := 0) (n := 4) (mid := [w32 (y).a, w32 (y).b, w32 (y).c, w32 (y).d]) (hT 55 rfl rfl) (B12_24.ext' hR) rfl rfl (nB rfl) row_24 rfl eR
 exact Ap fun aq wq _ hO hR hT => does_indexArr (k := .i64) (i := 1) (o' := 4) arr_62 (oT hO s12_25 rfl) rfl (by decide) (by decide) rfl eR
 exact Ap fun aq wq _ hO hR hT => does_loadD (o := 4) (n := 4) (mid := [w32 (d).a, w32 (d).b, w32 (d).c, w32 (d).d]) (hT 57 rfl rfl) (B12_24.ext' hR) rfl rfl (nB rfl) row_24 rfl eR
 exact Ap fun aq wq _ hO hR hT => does_ret (vs := #[Dg.val (y), Dg.val (d)]) call_35 (args2 (hT 56 rfl rfl) (hT 58 rfl rfl)) rfl ((pairR (y) (d) wq).mono fun v w2 h => ⟨h.2, h.1⟩)
 intro a26 wd26 N26 D26 hO hR hA hU
 obtain ⟨_, _, _, _, t59, _⟩ := hA
 have E26 := E24.trans hR
 have s0_26 := oT hO s0_25 rfl
 have s2_26 := oT hO s2_25 rfl
 have s4_26 := oT hO s4_25 rfl
 have s6_26 := oT hO s6_25 rfl
 have s8_26 := oT hO s8_25 rfl
 have s11_26 := oT hO s11_25 rfl
 have s12_26 := oT hO s12_25 rfl
 have s13_26 := oT hO s13_25 rfl
 have B6_26 := B6_24.ext' hR
 have B8_26 := B8_24.ext' hR
 have B12_26 := B12_24.ext' hR
 have B13_26 := B13_24.ext' hR
 have X1_26 := X1_24.ext' hR
 have X2_26 := X2_24.ext' hR
 have s59_26 : get a26 59 = Dg.val (pair y d) := t59
 clear E24 N25 D25 s0_25 s2_25 s4_25 s6_25 s8_25 s11_25 s12_25 s13_25 B6_24 B8_24 B12_24 B13_24 X1_24 X2_24
 refine tail_none rfl rfl (does_storeD (o := 0) (n := 4) (cs' := [w32 (pair y d).a, w32 (pair y d).b, w32 (pair y d).c, w32 (pair y d).d]) (V := Dg.val (pair y d)) s6_26 s59_26 B6_26 (nB rfl) rfl siz_24 rfl rfl (fun wd27 hX hz B6_27 => ?_))
 have E27 := E26.since hX (fun k e => e ▸ fr_b6)
 have B8_27 := B8_26.ext hX ne_b6_b8.symm
 have B12_27 := B12_26.ext hX ne_b6_b12.symm
 have B13_27 := B13_26.ext hX ne_b6_b13.symm
 have X1_27 := SlT.over X1_26 hX nb_x1_b6
 have X2_27 := SlT.over X2_26 hX nb_x2_b6
 clear hX hz E26 B6_26 B8_26 B12_26 B13_26 X1_26 X2_26
 refine tail_nil ?_
 refine wp_seq ?_
 refine Rl [] [(60, Pr.ex (Value.pointer (some ⟨b13, 0, none⟩))), (61, Pr.ex (Dg.val (z))), (62, Pr.ex (Value.pointer (some ⟨b13, 4, none⟩))), (63, Pr.ex (Dg.val (e))), (64, Pr.ex (Dg.val (pair z e)))] 5 N26 D26 ?_ ?_
 refine Ac ?_ (Ac ?_ (Ac ?_ (Ac ?_ (Ac ?_ (Az _)))))
 exact Ap fun aq wq _ hO hR hT => does_indexArr (k := .i64) (i := 0) (o' := 0) arr_62 (oT hO s13_26 rfl) rfl (by decide) (by decide) rfl eR
 exact Ap fun aq wq _ hO hR hT => does_loadD (o := 0) (n := 4) (mid := [w32 (z).a, w32 (z).b, w32 (z).c, w32 (z).d]) (hT 60 rfl rfl) (B13_27.ext' hR) rfl rfl (nB rfl) row_24 rfl eR
 exact Ap fun aq wq _ hO hR hT => does_indexArr (k := .i64) (i := 1) (o' := 4) arr_62 (oT hO s13_26 rfl) rfl (by decide) (by decide) rfl eR
 exact Ap fun aq wq _ hO hR hT => does_loadD (o := 4) (n := 4) (mid := [w32 (e).a, w32 (e).b, w32 (e).c, w32 (e).d]) (hT 62 rfl rfl) (B13_27.ext' hR) rfl rfl (nB rfl) row_24 rfl eR
 exact Ap fun aq wq _ hO hR hT => does_ret (vs := #[Dg.val (z), Dg.val (e)]) call_35 (args2 (hT 61 rfl rfl) (hT 63 rfl rfl)) rfl ((pairR (z) (e) wq).mono fun v w2 h => ⟨h.2, h.1⟩)
 intro a28 wd28 N28 D28 hO hR hA hU
 obtain ⟨_, _, _, _, t64, _⟩ := hA
 have E28 := E27.trans hR
 have s0_28 := oT hO s0_26 rfl
 have s2_28 := oT hO s2_26 rfl
 have s4_28 := oT hO s4_26 rfl
 have s6_28 := oT hO s6_26 rfl
 have s8_28 := oT hO s8_26 rfl
 have s11_28 := oT hO s11_26 rfl
 have s12_28 := oT hO s12_26 rfl
 have s13_28 := oT hO s13_26 rfl
 have B6_28 := B6_27.ext' hR
 have B8_28 := B8_27.ext' hR
 have B12_28 := B12_27.ext' hR
 have B13_28 := B13_27.ext' hR
 have X1_28 := X1_27.ext' hR
 have X2_28 := X2_27.ext' hR
 have s64_28 : get a28 64 = Dg.val (pair z e) := t64
 clear E27 N26 D26 s0_26 s2_26 s4_26 s6_26 s8_26 s11_26 s12_26 s13_26 s59_26 B6_27 B8_27 B12_27 B13_27 X1_27 X2_27
 refine tail_none rfl rfl (does_storeD (o := 0) (n := 4) (cs' := [w32 (pair z e).a, w32 (pair z e).b, w32 (pair z e).c, w32 (pair z e).d]) (V := Dg.val (pair z e)) s8_28 s64_28 B8_28 (nB rfl) rfl siz_24 rfl rfl (fun wd29 hX hz B8_29 => ?_))
 have E29 := E28.since hX (fun k e => e ▸ fr_b8)
 have B6_29 := B6_28.ext hX ne_b6_b8
 have B12_29 := B12_28.ext hX ne_b8_b12.symm
 have B13_29 := B13_28.ext hX ne_b8_b13.symm
 have X1_29 := SlT.over X1_28 hX nb_x1_b8
 have X2_29 := SlT.over X2_28 hX nb_x2_b8
 clear hX hz E28 B6_28 B8_28 B12_28 B13_28 X1_28 X2_28
 refine tail_nil ?_
 refine wp_seq ?_
 refine Rl [] [(65, Pr.ex (Value.agg #[w32 (y).a, w32 (y).b, w32 (y).c, w32 (y).d, w32 (d).a, w32 (d).b, w32 (d).c, w32 (d).d])), (66, Pr.ex (Value.agg #[w32 (z).a, w32 (z).b, w32 (z).c, w32 (z).d, w32 (e).a, w32 (e).b, w32 (e).c, w32 (e).d])), (67, Pr.ex (Value.bool (!decide (((y, d) : Two) = ((z, e) : Two))))), (68, Pr.ex (Value.bool (!decide (((y, d) : Two) = ((z, e) : Two))))), (69, Pr.ifb (!decide (((y, d) : Two) = ((z, e) : Two))) (Pr.ex (Dg.val (pair y d)))), (70, Pr.ifb (!decide (((y, d) : Two) = ((z, e) : Two))) (Pr.ex (Dg.val (pair z e)))), (71, Pr.ifb (!decide (((y, d) : Two) = ((z, e) : Two))) (Pr.ex (Value.bool (decide (pair y d = pair z e))))), (72, Pr.ex (Value.bool ((!decide (((y, d) : Two) = ((z, e) : Two))) && (decide (pair y d = pair z e)))))] 8 N28 D28 ?_ ?_
 refine Ac ?_ (Ac ?_ (Ac ?_ (Ac ?_ (Ac ?_ (Ac ?_ (Ac ?_ (Ac ?_ (Az _))))))))
 exact Ap fun aq wq _ hO hR hT => does_loadD (o := 0) (n := 8) (mid := [w32 (y).a, w32 (y).b, w32 (y).c, w32 (y).d, w32 (d).a, w32 (d).b, w32 (d).c, w32 (d).d]) (oT hO s12_28 rfl) (B12_29.ext' hR) rfl rfl (nB rfl) row_62 rfl eR
 exact Ap fun aq wq _ hO hR hT => does_loadD (o := 0) (n := 8) (mid := [w32 (z).a, w32 (z).b, w32 (z).c, w32 (z).d, w32 (e).a, w32 (e).b, w32 (e).c, w32 (e).d]) (oT hO s13_28 rfl) (B13_29.ext' hR) rfl rfl (nB rfl) row_62 rfl eR
 exact Ap fun aq wq _ hO hR hT => does_neT (a := ((y, d) : Two)) (b := ((z, e) : Two)) eq_62 (hT 65 rfl rfl) (hT 66 rfl rfl) eR
 exact Ap fun aq wq _ hO hR hT => does_move (V := Value.bool (!decide (((y, d) : Two) = ((z, e) : Two)))) (hT 67 rfl rfl) eR
 refine Ask.guarded (B := !decide (((y, d) : Two) = ((z, e) : Two))) (want := true) (t := 68) rfl rfl rfl rfl (by decide) (fun aq wq hO hR hT => hT 68 rfl rfl) (fun hG aq wq hNq hO hR hT => ?_) (fun hno _ => fun hc => absurd hc hno)
 exact does_loadD (o := 0) (n := 4) (mid := [w32 (pair y d).a, w32 (pair y d).b, w32 (pair y d).c, w32 (pair y d).d]) (oT hO s6_28 rfl) (B6_29.ext' hR) rfl rfl (nB rfl) row_24 rfl ⟨Ext.refl _, fun _ => rfl⟩
 refine Ask.guarded (B := !decide (((y, d) : Two) = ((z, e) : Two))) (want := true) (t := 68) rfl rfl rfl rfl (by decide) (fun aq wq hO hR hT => hT 68 rfl rfl) (fun hG aq wq hNq hO hR hT => ?_) (fun hno _ => fun hc => absurd hc hno)
 exact does_loadD (o := 0) (n := 4) (mid := [w32 (pair z e).a, w32 (pair z e).b, w32 (pair z e).c, w32 (pair z e).d]) (oT hO s8_28 rfl) (B8_29.ext' hR) rfl rfl (nB rfl) row_24 rfl ⟨Ext.refl _, fun _ => rfl⟩
 refine Ask.guarded (B := !decide (((y, d) : Two) = ((z, e) : Two))) (want := true) (t := 68) rfl rfl rfl rfl (by decide) (fun aq wq hO hR hT => hT 68 rfl rfl) (fun hG aq wq hNq hO hR hT => ?_) (fun hno _ => fun hc => absurd hc hno)
 exact does_eqT (a := pair y d) (b := pair z e) eq_24 (hT 69 rfl rfl hG) (hT 70 rfl rfl hG) ⟨Ext.refl _, fun _ => rfl⟩
 exact Ap fun aq wq _ hO hR hT => does_and (B := !decide (((y, d) : Two) = ((z, e) : Two))) (X := decide (pair y d = pair z e)) (hT 68 rfl rfl) (fun hB => (hT 71 rfl rfl hB)) rfl eR
 intro a30 wd30 N30 D30 hO hR hA hU
 obtain ⟨_, _, _, _, _, _, _, t72, _⟩ := hA
 have E30 := E29.trans hR
 have s0_30 := oT hO s0_28 rfl
 have s2_30 := oT hO s2_28 rfl
 have s4_30 := oT hO s4_28 rfl
 have s6_30 := oT hO s6_28 rfl
 have s8_30 := oT hO s8_28 rfl
 have s11_30 := oT hO s11_28 rfl
 have B6_30 := B6_29.ext' hR
 have B8_30 := B8_29.ext' hR
 have B12_30 := B12_29.ext' hR
 have B13_30 := B13_29.ext' hR
 have X1_30 := X1_29.ext' hR
 have X2_30 := X2_29.ext' hR
 have s72_30 : get a30 72 = Value.bool ((!decide (((y, d) : Two) = ((z, e) : Two))) && (decide (pair y d = pair z e))) := t72
 clear E29 N28 D28 s0_28 s2_28 s4_28 s6_28 s8_28 s11_28 s12_28 s13_28 s64_28 B6_29 B8_29 B12_29 B13_29 X1_29 X2_29
 refine tail_nil ?_
 refine wp_if (B := (!decide (((y, d) : Two) = ((z, e) : Two))) && (decide (pair y d = pair z e))) s72_30 (fun hc3 => ?_) (fun hc3 => ?_)
 refine wp_seq ?_
 refine Rl [] [(10, Pr.ex (Value.bool (true)))] 1 N30 D30 ?_ ?_
 refine Ac ?_ (Az _)
 exact Ap fun aq wq _ hO hR hT => does_assign (V := Value.bool (true)) rfl eR
 intro a31 wd31 N31 D31 hO hR hA hU
 obtain ⟨t10, _⟩ := hA
 have E31 := E30.trans hR
 have B6_31 := B6_30.ext' hR
 have B8_31 := B8_30.ext' hR
 have B12_31 := B12_30.ext' hR
 have B13_31 := B13_30.ext' hR
 have X1_31 := X1_30.ext' hR
 have X2_31 := X2_30.ext' hR
 have s10_31 : get a31 10 = Value.bool (true) := t10
 clear E30 N30 D30 s0_30 s2_30 s4_30 s6_30 s8_30 s11_30 s72_30 B6_30 B8_30 B12_30 B13_30 X1_30 X2_30
 refine tail_nil ?_
 refine wp_ret ?_
 refine res_one (V := Value.bool (true)) rfl D31 s10_31 ?_
 exact ⟨by show Value.bool _ = Value.bool _; rw [heq, clashK_hitE hd he ho (by simpa using hc3)], E31⟩
 refine wp_skip ?_
 refine Rl [] [(24, Pr.ex (i64 (k : Int))), (25, Pr.ex (i64 ((k + 1 : Nat) : Int)))] 2 N30 D30 ?_ ?_
 refine Ac ?_ (Ac ?_ (Az _))
 exact Am s11_30 rfl fun _ => rfl
 exact Ap fun aq wq _ hO hR hT => does_add (a := (k : Int)) (b := ((1 : Nat) : Int)) (r := ((k + 1 : Nat) : Int)) (hT 24 rfl rfl) rfl (by omega) (by omega) (by omega) eR
 intro a32 wd32 N32 D32 hO hR hA hU
 obtain ⟨_, t25, _⟩ := hA
 have E32 := E30.trans hR
 have s0_32 := oT hO s0_30 rfl
 have s2_32 := oT hO s2_30 rfl
 have s4_32 := oT hO s4_30 rfl
 have s6_32 := oT hO s6_30 rfl
 have s8_32 := oT hO s8_30 rfl
 have s11_32 := oT hO s11_30 rfl
 have B6_32 := B6_30.ext' hR
 have B8_32 := B8_30.ext' hR
 have B12_32 := B12_30.ext' hR
 have B13_32 := B13_30.ext' hR
 have X1_32 := X1_30.ext' hR
 have X2_32 := X2_30.ext' hR
 have s25_32 : get a32 25 = i64 ((k + 1 : Nat) : Int) := t25
 clear E30 N30 D30 s0_30 s2_30 s4_30 s6_30 s8_30 s11_30 s72_30 B6_30 B8_30 B12_30 B13_30 X1_30 X2_30
 refine tail_put rfl rfl N32 D32 (by decide) (does_assign (V := i64 ((k + 1 : Nat) : Int)) s25_32 (fun a33 N33 D33 hv hO => ?_))
 have s11_33 := hv
 have s0_33 := oT hO s0_32 rfl
 have s2_33 := oT hO s2_32 rfl
 have s4_33 := oT hO s4_32 rfl
 have s6_33 := oT hO s6_32 rfl
 have s8_33 := oT hO s8_32 rfl
 clear hO hv N32 D32 s0_32 s2_32 s4_32 s6_32 s8_32 s25_32 s11_32
 refine tail_nil ?_
 exact ⟨_, by omega, k + 1, i / 2, pair y d, pair z e, rfl, N33, D33, s0_33, s2_33, s4_33, s6_33, s8_33, s11_33, E32, B6_32, B8_32, X1_32, X2_32, by omega, heq.trans (clashK_stepE hd he ho (by simpa using hc3))⟩
 have hend : p.drop k = [] ∨ q.drop k = [] := by rw [List.drop_eq_nil_iff, List.drop_eq_nil_iff]; simp at hc0; omega
 refine wp_exit ?_
 refine wp_seq ?_
 refine Rl [] [(10, Pr.ex (Value.bool (false)))] 1 N4 D4 ?_ ?_
 refine Ac ?_ (Az _)
 exact Ap fun aq wq _ hO hR hT => does_assign (V := Value.bool (false)) rfl eR
 intro a34 wd34 N34 D34 hO hR hA hU
 obtain ⟨t10, _⟩ := hA
 have E34 := E4.trans hR
 have B6_34 := B6_4.ext' hR
 have B8_34 := B8_4.ext' hR
 have X1_34 := X1_4.ext' hR
 have X2_34 := X2_4.ext' hR
 have s10_34 : get a34 10 = Value.bool (false) := t10
 clear E4 N4 D4 s0_4 s2_4 s4_4 s6_4 s8_4 s11_4 s23_4 B6_4 B8_4 X1_4 X2_4
 refine tail_nil ?_
 refine wp_ret ?_
 refine res_one (V := Value.bool (false)) rfl D34 s10_34 ?_
 exact ⟨by show Value.bool _ = Value.bool _; rw [heq, clashK_end hend], E34⟩

end Go.Proofs.YtaeohnkfmachfaaDoor
