/- The walks of functions of the program: printed. -/
import Derived.Test.YtmmghpbncejfiaaDoorG3
import Derived.Test.YtmmghpbncejfiaaDoorF0
set_option maxRecDepth 100000
namespace Go.Proofs.YtmmghpbncejfiaaDoor
open Go Go.RowKit Sk Sd
theorem pop_ (l : List Dg) (ok : Bool) (b p : Nat) (w0 : World) (hS : StkAt 108 b p l ok w0) (hpb : p ≠ b) (hpl : p < w0.heap.size) (hn : l.length ≤ 100000) :
    GivesW Tryd.prog 89 #[Value.pointer (some ⟨b, 0, none⟩)] w0 b (Dg.val (l.getLastD Dg.zero)) (StkAt 108 b p l.dropLast (ok && !l.isEmpty)) := by
 refine enter (N := 41) Tryd.func89 rfl rfl ?_
 intro a0 N0 D0 hA
 have s0_0 : get a0 0 = Value.pointer (some ⟨b, 0, none⟩) := hA 0 _ rfl
 clear hA
 have E0 : ExtE (fun k => k = b) w0 w0 := ExtE.refl _ _
 obtain ⟨x1, hb, hx1⟩ := hS
 have X1_0 := hx1
 refine wp_seq ?_
 refine Rl [2] [(2, Pr.box' w0.heap.size 24 [w32 (Dg.zero).a, w32 (Dg.zero).b, w32 (Dg.zero).c, w32 (Dg.zero).d])] 1 N0 D0 ?_ ?_
 refine Ac ?_ (Az _)
 refine Ask.fresh rfl rfl ?_
 intro aq wq hNq hO hR hT
 exact does_alloc zero_24 (fun b w2 he hlo hb => ⟨he, ⟨b, rfl, Nat.le_trans hR.size' hlo, hb⟩, ⟨b, rfl, hlo, hb.lt⟩⟩)
 intro a1 wd1 N1 D1 hO hR hA hU
 obtain ⟨t2, _⟩ := hA
 have E1 := E0.trans hR.toE
 have s0_1 := oT hO s0_0 rfl
 have hbb_1 := hb.ext' hR
 have X1_1 := X1_0.ext' hR
 obtain ⟨b2, s2_1, lo_b2, B2_1⟩ := t2
 have ne_b_b2 := Hl hb lo_b2
 have nb_x1_b2 := SlT.old X1_0 lo_b2
 have fr_b2 : w0.heap.size ≤ b2 := Nat.le_trans E0.size' lo_b2
 clear E0 N0 D0 s0_0 hb X1_0
 refine tail_nil ?_
 refine wp_seq ?_
 refine wp_seq ?_
 refine Rl [] [(4, Pr.ex (Value.pointer (some ⟨b, 0, none⟩))), (5, Pr.ex (Value.pointer (some ⟨b, 0, none⟩))), (6, Pr.ex (Value.pointer (some ⟨b, 0, none⟩))), (7, Pr.ex (x1)), (8, Pr.ex (i64 (l.length : Int))), (9, Pr.ex (Value.bool (decide ((l.length : Int) = ((0 : Nat) : Int)))))] 6 N1 D1 ?_ ?_
 refine Ac ?_ (Ac ?_ (Ac ?_ (Ac ?_ (Ac ?_ (Ac ?_ (Az _))))))
 exact Am s0_1 rfl fun _ => rfl
 exact Ap fun aq wq _ hO hR hT => does_nilCheck (hT 4 rfl rfl) eR
 exact Ap fun aq wq _ hO hR hT => does_field (o' := 0) fld_108_0 (hT 5 rfl rfl) rfl eR
 exact Ap fun aq wq _ hO hR hT => does_loadD1 (o := 0) (V := x1) (hT 6 rfl rfl) (hbb_1.ext' hR) rfl one_27 eR
 exact Ap fun aq wq _ hO hR hT => does_len (T := DG) (xs := l) sli_27 (SlT.at (hT 7 rfl rfl) (X1_1.ext' hR)) eR
 exact Ap fun aq wq _ hO hR hT => does_eql (a := (l.length : Int)) (b := ((0 : Nat) : Int)) (hT 8 rfl rfl) rfl eR
 intro a2 wd2 N2 D2 hO hR hA hU
 obtain ⟨_, _, _, _, _, t9, _⟩ := hA
 have E2 := E1.trans hR.toE
 have s0_2 := oT hO s0_1 rfl
 have s2_2 := oT hO s2_1 rfl
 have hbb_2 := hbb_1.ext' hR
 have B2_2 := B2_1.ext' hR
 have X1_2 := X1_1.ext' hR
 have s9_2 : get a2 9 = Value.bool (decide ((l.length : Int) = ((0 : Nat) : Int))) := t9
 clear E1 N1 D1 s0_1 s2_1 hbb_1 B2_1 X1_1
 refine tail_nil ?_
 refine wp_if (B := decide ((l.length : Int) = ((0 : Nat) : Int))) s9_2 (fun hc0 => ?_) (fun hc0 => ?_)
 have hc0 := of_decide_eq_true hc0
 refine wp_seq ?_
 refine Rl [] [(10, Pr.ex (Value.pointer (some ⟨b, 0, none⟩))), (11, Pr.ex (Value.pointer (some ⟨b, 0, none⟩))), (12, Pr.ex (Value.pointer (some ⟨b, 1, none⟩)))] 3 N2 D2 ?_ ?_
 refine Ac ?_ (Ac ?_ (Ac ?_ (Az _)))
 exact Am s0_2 rfl fun _ => rfl
 exact Ap fun aq wq _ hO hR hT => does_nilCheck (hT 10 rfl rfl) eR
 exact Ap fun aq wq _ hO hR hT => does_field (o' := 1) fld_108_1 (hT 11 rfl rfl) rfl eR
 intro a3 wd3 N3 D3 hO hR hA hU
 obtain ⟨_, _, t12, _⟩ := hA
 have E3 := E2.trans hR.toE
 have s2_3 := oT hO s2_2 rfl
 have hbb_3 := hbb_2.ext' hR
 have B2_3 := B2_2.ext' hR
 have X1_3 := X1_2.ext' hR
 have s12_3 : get a3 12 = Value.pointer (some ⟨b, 1, none⟩) := t12
 clear E2 N2 D2 s0_2 s2_2 s9_2 hbb_2 B2_2 X1_2
 refine tail_none rfl rfl (does_storeD (o := 1) (n := 1) (cs' := [x1, Value.bool (false)]) (V := Value.bool (false)) s12_3 rfl hbb_3 (nB rfl) rfl siz_4 rfl rfl (fun wd4 hX hz hbb_4 => ?_))
 have E4 := E3.trans hX
 have B2_4 := B2_3.ext hX ne_b_b2.symm
 have X1_4 := SlT.over X1_3 hX (SlT.pinned X1_3 hpb)
 clear hX hz E3 hbb_3 B2_3 X1_3
 refine tail_nil ?_
 refine wp_seq ?_
 refine Rl [] [(13, Pr.ex (Dg.val (Dg.zero)))] 1 N3 D3 ?_ ?_
 refine Ac ?_ (Az _)
 exact Ap fun aq wq _ hO hR hT => does_build (vs := #[]) (V := Dg.val (Dg.zero)) parts0 (by kernel_rfl) eR
 intro a5 wd5 N5 D5 hO hR hA hU
 obtain ⟨t13, _⟩ := hA
 have E5 := E4.trans hR.toE
 have s2_5 := oT hO s2_3 rfl
 have hbb_5 := hbb_4.ext' hR
 have B2_5 := B2_4.ext' hR
 have X1_5 := X1_4.ext' hR
 have s13_5 : get a5 13 = Dg.val (Dg.zero) := t13
 clear E4 N3 D3 s2_3 s12_3 hbb_4 B2_4 X1_4
 refine tail_none rfl rfl (does_storeD (o := 0) (n := 4) (cs' := [w32 (Dg.zero).a, w32 (Dg.zero).b, w32 (Dg.zero).c, w32 (Dg.zero).d]) (V := Dg.val (Dg.zero)) s2_5 s13_5 B2_5 (nB rfl) rfl siz_24 rfl rfl (fun wd6 hX hz B2_6 => ?_))
 have E6 := E5.since hX (fun k e => e ▸ fr_b2)
 have hbb_6 := hbb_5.ext hX ne_b_b2
 have X1_6 := SlT.over X1_5 hX nb_x1_b2
 clear hX hz E5 hbb_5 B2_5 X1_5
 refine tail_nil ?_
 refine wp_ret ?_
 refine res_one (V := Dg.val (Dg.zero)) rfl D5 (ResIs.cell s2_5 B2_6 row_24 rfl rfl) ?_
 have hl0 : l = [] := List.length_eq_zero_iff.1 (by omega)
 refine ⟨by rw [hl0]; rfl, E6, ?_⟩
 have hS' : StkAt 108 b p l false wd6 := ⟨_, hbb_6, X1_6⟩
 rw [hl0] at hS' ⊢
 rw [show (ok && !([] : List Dg).isEmpty) = false by simp]
 exact hS'
 have hc0 := of_decide_eq_false hc0
 obtain ⟨z, hz⟩ := get_of_lt (l := l) (k := l.length - 1) (by omega)
 refine wp_skip ?_
 refine wp_seq ?_
 refine Ra [3] [(14, Pr.ex (Value.pointer (some ⟨b, 0, none⟩))), (15, Pr.ex (Value.pointer (some ⟨b, 0, none⟩))), (16, Pr.ex (Value.pointer (some ⟨b, 0, none⟩))), (17, Pr.ex (x1)), (18, Pr.ex (Value.pointer (some ⟨b, 0, none⟩))), (19, Pr.ex (Value.pointer (some ⟨b, 0, none⟩))), (20, Pr.ex (Value.pointer (some ⟨b, 0, none⟩))), (21, Pr.ex (x1)), (22, Pr.ex (i64 (l.length : Int))), (23, Pr.ex (i64 ((l.length - 1 : Nat) : Int))), (24, Pr.pt' p (p + 2) [w32 (z).a, w32 (z).b, w32 (z).c, w32 (z).d]), (25, Pr.ex (Dg.val (z))), (3, Pr.box' wd2.heap.size 24 [w32 (Dg.zero).a, w32 (Dg.zero).b, w32 (Dg.zero).c, w32 (Dg.zero).d])] 13 mixed N2 D2 ?_ ?_
 refine Ac ?_ (Ac ?_ (Ac ?_ (Ac ?_ (Ac ?_ (Ac ?_ (Ac ?_ (Ac ?_ (Ac ?_ (Ac ?_ (Ac ?_ (Ac ?_ (Ac ?_ (Az _)))))))))))))
 exact Am s0_2 rfl fun _ => rfl
 exact Ad fun aq wq _ hO hR hT => does_nilCheck (hT 14 rfl rfl) eR
 exact Ad fun aq wq _ hO hR hT => does_field (o' := 0) fld_108_0 (hT 15 rfl rfl) rfl eR
 exact Ad fun aq wq _ hO hR hT => does_loadD1 (o := 0) (V := x1) (hT 16 rfl rfl) (hbb_2.ext' hR) rfl one_27 eR
 exact Am s0_2 rfl fun _ => rfl
 exact Ad fun aq wq _ hO hR hT => does_nilCheck (hT 18 rfl rfl) eR
 exact Ad fun aq wq _ hO hR hT => does_field (o' := 0) fld_108_0 (hT 19 rfl rfl) rfl eR
 exact Ad fun aq wq _ hO hR hT => does_loadD1 (o := 0) (V := x1) (hT 20 rfl rfl) (hbb_2.ext' hR) rfl one_27 eR
 exact Ad fun aq wq _ hO hR hT => does_len (T := DG) (xs := l) sli_27 (SlT.at (hT 21 rfl rfl) (X1_2.ext' hR)) eR
 exact Ad fun aq wq _ hO hR hT => does_sub (a := (l.length : Int)) (b := ((1 : Nat) : Int)) (r := ((l.length - 1 : Nat) : Int)) (hT 22 rfl rfl) rfl (by omega) (by omega) (by omega) eR
 exact Ad fun aq wq _ hO hR hT => does_indexSl (T := DG) (xs := l) (i := ((l.length - 1 : Nat) : Int)) (X := z) sli_27 rfl (SlT.at (hT 17 rfl rfl) (X1_2.ext' hR)) (hT 23 rfl rfl) (by omega) (by simpa using hz) (fun v h => ⟨Ext.refl _, h⟩)
 exact Ad fun aq wq _ hO hR hT => does_loadP (cs := [w32 (z).a, w32 (z).b, w32 (z).c, w32 (z).d]) (hT 24 rfl rfl) row_24 rfl eR
 refine Ask.fresh rfl rfl ?_
 intro aq wq hNq hO hR hT
 replace hR := (Ext.drew _).trans hR
 exact does_alloc zero_24 (fun b w2 he hlo hb => ⟨he, ⟨b, rfl, Nat.le_trans hR.size' hlo, hb⟩, ⟨b, rfl, hlo, hb.lt⟩⟩)
 intro a7 wd7 N7 D7 hO hR hA hU
 obtain ⟨_, _, _, _, _, _, _, _, _, _, _, t25, t3, _⟩ := hA
 have E7 := E2.trans hR.toE
 have s0_7 := oT hO s0_2 rfl
 have s2_7 := oT hO s2_2 rfl
 have hbb_7 := hbb_2.ext' hR
 have B2_7 := B2_2.ext' hR
 have X1_7 := X1_2.ext' hR
 have s25_7 : get a7 25 = Dg.val (z) := t25
 obtain ⟨b3, s3_7, lo_b3, B3_7⟩ := t3
 have ne_b_b3 := Hl hbb_2 lo_b3
 have ne_b2_b3 := Hl B2_2 lo_b3
 have nb_x1_b3 := SlT.old X1_2 lo_b3
 have fr_b3 : w0.heap.size ≤ b3 := Nat.le_trans E2.size' lo_b3
 clear E2 N2 D2 s0_2 s2_2 s9_2 hbb_2 B2_2 X1_2
 refine tail_none rfl rfl (does_storeD (o := 0) (n := 4) (cs' := [w32 (z).a, w32 (z).b, w32 (z).c, w32 (z).d]) (V := Dg.val (z)) s3_7 s25_7 B3_7 (nB rfl) rfl siz_24 rfl rfl (fun wd8 hX hz B3_8 => ?_))
 have E8 := E7.since hX (fun k e => e ▸ fr_b3)
 have hbb_8 := hbb_7.ext hX ne_b_b3
 have B2_8 := B2_7.ext hX ne_b2_b3
 have X1_8 := SlT.over X1_7 hX nb_x1_b3
 clear hX hz E7 hbb_7 B2_7 B3_7 X1_7
 refine tail_nil ?_
 refine wp_seq ?_
 refine Ra [] [(26, Pr.ex (Value.pointer (some ⟨b, 0, none⟩))), (27, Pr.ex (Value.pointer (some ⟨b, 0, none⟩))), (28, Pr.ex (Value.pointer (some ⟨b, 0, none⟩))), (29, Pr.ex (Value.pointer (some ⟨b, 0, none⟩))), (30, Pr.ex (x1)), (31, Pr.ex (Value.pointer (some ⟨b, 0, none⟩))), (32, Pr.ex (Value.pointer (some ⟨b, 0, none⟩))), (33, Pr.ex (Value.pointer (some ⟨b, 0, none⟩))), (34, Pr.ex (x1)), (35, Pr.ex (i64 (l.length : Int))), (36, Pr.ex (i64 ((l.length - 1 : Nat) : Int))), (37, Pr.sl' DG p (p + 2) (l.take (l.length - 1))), (38, Pr.ex (Value.pointer (some ⟨b, 0, none⟩))), (39, Pr.ex (Value.pointer (some ⟨b, 0, none⟩)))] 14 mixed N7 D7 ?_ ?_
 refine Ac ?_ (Ac ?_ (Ac ?_ (Ac ?_ (Ac ?_ (Ac ?_ (Ac ?_ (Ac ?_ (Ac ?_ (Ac ?_ (Ac ?_ (Ac ?_ (Ac ?_ (Ac ?_ (Az _))))))))))))))
 exact Am s0_7 rfl fun _ => rfl
 exact Am s0_7 rfl fun _ => rfl
 exact Ad fun aq wq _ hO hR hT => does_nilCheck (hT 27 rfl rfl) eR
 exact Ad fun aq wq _ hO hR hT => does_field (o' := 0) fld_108_0 (hT 28 rfl rfl) rfl eR
 exact Ad fun aq wq _ hO hR hT => does_loadD1 (o := 0) (V := x1) (hT 29 rfl rfl) (hbb_8.ext' hR) rfl one_27 eR
 exact Am s0_7 rfl fun _ => rfl
 exact Ad fun aq wq _ hO hR hT => does_nilCheck (hT 31 rfl rfl) eR
 exact Ad fun aq wq _ hO hR hT => does_field (o' := 0) fld_108_0 (hT 32 rfl rfl) rfl eR
 exact Ad fun aq wq _ hO hR hT => does_loadD1 (o := 0) (V := x1) (hT 33 rfl rfl) (hbb_8.ext' hR) rfl one_27 eR
 exact Ad fun aq wq _ hO hR hT => does_len (T := DG) (xs := l) sli_27 (SlT.at (hT 34 rfl rfl) (X1_8.ext' hR)) eR
 exact Ad fun aq wq _ hO hR hT => does_sub (a := (l.length : Int)) (b := ((1 : Nat) : Int)) (r := ((l.length - 1 : Nat) : Int)) (hT 35 rfl rfl) rfl (by omega) (by omega) (by omega) eR
 exact Ad fun aq wq _ hO hR hT => does_sliceHi (T := DG) (xs := l) (k := ((l.length - 1 : Nat) : Int)) sli_27 rfl (SlT.at (hT 30 rfl rfl) (X1_8.ext' hR)) (hT 36 rfl rfl) (by omega) (by omega) (fun v h => ⟨Ext.refl _, h⟩)
 exact Ad fun aq wq _ hO hR hT => does_nilCheck (hT 26 rfl rfl) eR
 exact Ad fun aq wq _ hO hR hT => does_field (o' := 0) fld_108_0 (hT 38 rfl rfl) rfl eR
 intro a9 wd9 N9 D9 hO hR hA hU
 obtain ⟨_, _, _, _, _, _, _, _, _, _, _, t37, _, t39, _⟩ := hA
 have E9 := E8.trans hR.toE
 have s2_9 := oT hO s2_7 rfl
 have s3_9 := oT hO s3_7 rfl
 have hbb_9 := hbb_8.ext' hR
 have B2_9 := B2_8.ext' hR
 have B3_9 := B3_8.ext' hR
 have X1_9 := X1_8.ext' hR
 obtain ⟨x37, s37_9⟩ : ∃ x, get a9 37 = x := ⟨_, rfl⟩
 replace t37 : SlT DG p (p + 2) (l.take (l.length - 1)) x37 wd9 := by rw [← s37_9]; exact t37
 have X37_9 := t37
 have nb_x37_b := SlT.child X1_8 (SlT.pinned X1_8 hpb) X37_9 (fun e => by simp [e])
 have nb_x37_b2 := SlT.child X1_8 nb_x1_b2 X37_9 (fun e => by simp [e])
 have nb_x37_b3 := SlT.child X1_8 nb_x1_b3 X37_9 (fun e => by simp [e])
 have s39_9 : get a9 39 = Value.pointer (some ⟨b, 0, none⟩) := t39
 clear E8 N7 D7 s0_7 s2_7 s3_7 s25_7 hbb_8 B2_8 B3_8 X1_8
 refine tail_none rfl rfl (does_storeS (o := 0) (cs' := [x37, Value.bool (ok)]) (V := x37) (SlT.cells X37_9) (SlT.one X37_9) s39_9 s37_9 hbb_9 (nB rfl) siz_27 rfl (fun wd10 hX hz hbb_10 => ?_))
 have E10 := E9.trans hX
 have B2_10 := B2_9.ext hX ne_b_b2.symm
 have B3_10 := B3_9.ext hX ne_b_b3.symm
 have X1_10 := SlT.over X1_9 hX (SlT.pinned X1_9 hpb)
 have X37_10 := SlT.over X37_9 hX nb_x37_b
 clear hX hz E9 hbb_9 B2_9 B3_9 X1_9 X37_9
 refine tail_nil ?_
 refine wp_seq ?_
 refine Rl [] [(40, Pr.ex (Dg.val (z)))] 1 N9 D9 ?_ ?_
 refine Ac ?_ (Az _)
 exact Ap fun aq wq _ hO hR hT => does_loadD (o := 0) (n := 4) (mid := [w32 (z).a, w32 (z).b, w32 (z).c, w32 (z).d]) (oT hO s3_9 rfl) (B3_10.ext' hR) rfl rfl (nB rfl) row_24 rfl eR
 intro a11 wd11 N11 D11 hO hR hA hU
 obtain ⟨t40, _⟩ := hA
 have E11 := E10.trans hR.toE
 have s2_11 := oT hO s2_9 rfl
 have hbb_11 := hbb_10.ext' hR
 have B2_11 := B2_10.ext' hR
 have B3_11 := B3_10.ext' hR
 have X1_11 := X1_10.ext' hR
 have X37_11 := X37_10.ext' hR
 have s40_11 : get a11 40 = Dg.val (z) := t40
 clear E10 N9 D9 s2_9 s3_9 s37_9 s39_9 hbb_10 B2_10 B3_10 X1_10 X37_10
 refine tail_none rfl rfl (does_storeD (o := 0) (n := 4) (cs' := [w32 (z).a, w32 (z).b, w32 (z).c, w32 (z).d]) (V := Dg.val (z)) s2_11 s40_11 B2_11 (nB rfl) rfl siz_24 rfl rfl (fun wd12 hX hz B2_12 => ?_))
 have E12 := E11.since hX (fun k e => e ▸ fr_b2)
 have hbb_12 := hbb_11.ext hX ne_b_b2
 have B3_12 := B3_11.ext hX ne_b2_b3.symm
 have X1_12 := SlT.over X1_11 hX nb_x1_b2
 have X37_12 := SlT.over X37_11 hX nb_x37_b2
 clear hX hz E11 hbb_11 B2_11 B3_11 X1_11 X37_11
 refine tail_nil ?_
 refine wp_ret ?_
 refine res_one (V := Dg.val (z)) rfl D11 (ResIs.cell s2_11 B2_12 row_24 rfl rfl) ?_
 refine ⟨by rw [last_of hz], E12, ?_⟩
 have hS' : StkAt 108 b p (l.take (l.length - 1)) ok wd12 := ⟨_, hbb_12, X37_12⟩
 rw [pop_ok (by omega), ← take_last]
 exact hS'

theorem done_ (l : List Dg) (ok : Bool) (b p : Nat) (w0 : World) (hS : StkAt 108 b p l ok w0) :
    Gives Tryd.prog 68 #[Value.pointer (some ⟨b, 0, none⟩)] w0 (Pr.ex (Value.bool (ok && decide (l.length = 0)))) := by
 refine enter (N := 15) Tryd.func68 rfl rfl ?_
 intro a0 N0 D0 hA
 have s0_0 : get a0 0 = Value.pointer (some ⟨b, 0, none⟩) := hA 0 _ rfl
 clear hA
 have E0 : Ext w0 w0 := Ext.refl w0
 obtain ⟨x1, hb, hx1⟩ := hS
 have X1_0 := hx1
 refine wp_seq ?_
 refine Rl [] [(2, Pr.ex (Value.bool (false)))] 1 N0 D0 ?_ ?_
 refine Ac ?_ (Az _)
 exact Ap fun aq wq _ hO hR hT => does_assign (V := Value.bool (false)) rfl eR
 intro a1 wd1 N1 D1 hO hR hA hU
 obtain ⟨_, _⟩ := hA
 have E1 := E0.trans hR
 have s0_1 := oT hO s0_0 rfl
 have hbb_1 := hb.ext' hR
 have X1_1 := X1_0.ext' hR
 clear E0 N0 D0 s0_0 hb X1_0
 refine tail_nil ?_
 refine wp_seq ?_
 refine Rl [] [(3, Pr.ex (Value.pointer (some ⟨b, 0, none⟩))), (4, Pr.ex (Value.pointer (some ⟨b, 0, none⟩))), (5, Pr.ex (Value.pointer (some ⟨b, 1, none⟩))), (6, Pr.ex (Value.bool (ok))), (7, Pr.ex (Value.bool (ok))), (8, Pr.ifb (ok) (Pr.ex (Value.pointer (some ⟨b, 0, none⟩)))), (9, Pr.ifb (ok) (Pr.ex (Value.pointer (some ⟨b, 0, none⟩)))), (10, Pr.ifb (ok) (Pr.ex (Value.pointer (some ⟨b, 0, none⟩)))), (11, Pr.ifb (ok) (Pr.ex (x1))), (12, Pr.ifb (ok) (Pr.ex (i64 (l.length : Int)))), (13, Pr.ifb (ok) (Pr.ex (Value.bool (decide ((l.length : Int) = ((0 : Nat) : Int)))))), (14, Pr.ex (Value.bool (ok && (decide ((l.length : Int) = ((0 : Nat) : Int)))))), (2, Pr.ex (Value.bool (ok && (decide ((l.length : Int) = ((0 : Nat) : Int))))))] 13 N1 D1 ?_ ?_
 refine Ac ?_ (Ac ?_ (Ac ?_ (Ac ?_ (Ac ?_ (Ac ?_ (Ac ?_ (Ac ?_ (Ac ?_ (Ac ?_ (Ac ?_ (Ac ?_ (Ac ?_ (Az _)))))))))))))
 exact Am s0_1 rfl fun _ => rfl
 exact Ap fun aq wq _ hO hR hT => does_nilCheck (hT 3 rfl rfl) eR
 exact Ap fun aq wq _ hO hR hT => does_field (o' := 1) fld_108_1 (hT 4 rfl rfl) rfl eR
 exact Ap fun aq wq _ hO hR hT => does_loadD1 (o := 1) (V := Value.bool (ok)) (hT 5 rfl rfl) (hbb_1.ext' hR) rfl one_4 eR
 exact Ap fun aq wq _ hO hR hT => does_move (V := Value.bool (ok)) (hT 6 rfl rfl) eR
 refine Ask.guarded (B := ok) (want := true) (t := 7) rfl rfl rfl rfl (by decide) (fun aq wq hO hR hT => hT 7 rfl rfl) (fun hG aq wq hNq hO hR hT => ?_) (fun hno _ => fun hc => absurd hc hno)
 exact does_move (V := Value.pointer (some ⟨b, 0, none⟩)) (oT hO s0_1 rfl) ⟨Ext.refl _, fun _ => rfl⟩
 refine Ask.guarded (B := ok) (want := true) (t := 7) rfl rfl rfl rfl (by decide) (fun aq wq hO hR hT => hT 7 rfl rfl) (fun hG aq wq hNq hO hR hT => ?_) (fun hno _ => fun hc => absurd hc hno)
 exact does_nilCheck (hT 8 rfl rfl hG) ⟨Ext.refl _, fun _ => rfl⟩
 refine Ask.guarded (B := ok) (want := true) (t := 7) rfl rfl rfl rfl (by decide) (fun aq wq hO hR hT => hT 7 rfl rfl) (fun hG aq wq hNq hO hR hT => ?_) (fun hno _ => fun hc => absurd hc hno)
 exact does_field (o' := 0) fld_108_0 (hT 9 rfl rfl hG) rfl ⟨Ext.refl _, fun _ => rfl⟩
 refine Ask.guarded (B := ok) (want := true) (t := 7) rfl rfl rfl rfl (by decide) (fun aq wq hO hR hT => hT 7 rfl rfl) (fun hG aq wq hNq hO hR hT => ?_) (fun hno _ => fun hc => absurd hc hno)
 exact does_loadD1 (o := 0) (V := x1) (hT 10 rfl rfl hG) (hbb_1.ext' hR) rfl one_27 ⟨Ext.refl _, fun _ => rfl⟩
 refine Ask.guarded (B := ok) (want := true) (t := 7) rfl rfl rfl rfl (by decide) (fun aq wq hO hR hT => hT 7 rfl rfl) (fun hG aq wq hNq hO hR hT => ?_) (fun hno _ => fun hc => absurd hc hno)
 exact does_len (T := DG) (xs := l) sli_27 (SlT.at (hT 11 rfl rfl hG) (X1_1.ext' hR)) ⟨Ext.refl _, fun _ => rfl⟩
 refine Ask.guarded (B := ok) (want := true) (t := 7) rfl rfl rfl rfl (by decide) (fun aq wq hO hR hT => hT 7 rfl rfl) (fun hG aq wq hNq hO hR hT => ?_) (fun hno _ => fun hc => absurd hc hno)
 exact does_eql (a := (l.length : Int)) (b := ((0 : Nat) : Int)) (hT 12 rfl rfl hG) rfl ⟨Ext.refl _, fun _ => rfl⟩
 exact Ap fun aq wq _ hO hR hT => does_and (B := ok) (X := decide ((l.length : Int) = ((0 : Nat) : Int))) (hT 7 rfl rfl) (fun hB => (hT 13 rfl rfl hB)) rfl eR
 exact Ap fun aq wq _ hO hR hT => does_assign (V := Value.bool (ok && (decide ((l.length : Int) = ((0 : Nat) : Int))))) (hT 14 rfl rfl) eR
 intro a2 wd2 N2 D2 hO hR hA hU
 obtain ⟨_, _, _, _, _, _, _, _, _, _, _, _, t2, _⟩ := hA
 have E2 := E1.trans hR
 have hbb_2 := hbb_1.ext' hR
 have X1_2 := X1_1.ext' hR
 have s2_2 : get a2 2 = Value.bool (ok && (decide ((l.length : Int) = ((0 : Nat) : Int)))) := t2
 clear E1 N1 D1 s0_1 hbb_1 X1_1
 refine tail_nil ?_
 refine wp_ret ?_
 refine res_one (V := Value.bool (ok && (decide ((l.length : Int) = ((0 : Nat) : Int))))) rfl D2 s2_2 ?_
 exact ⟨congrArg Value.bool (by simp), E2⟩

end Go.Proofs.YtmmghpbncejfiaaDoor
