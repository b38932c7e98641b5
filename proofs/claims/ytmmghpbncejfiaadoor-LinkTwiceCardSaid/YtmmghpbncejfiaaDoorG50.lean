/- The walks of functions of the program: printed. -/
import Derived.Test.YtmmghpbncejfiaaDoorK
import Derived.Test.YtmmghpbncejfiaaDoorG3
import Derived.Test.YtmmghpbncejfiaaDoorG7
import Derived.Test.YtmmghpbncejfiaaDoorF0
set_option maxRecDepth 100000
namespace Go.Proofs.YtmmghpbncejfiaaDoor
open Go Go.RowKit Sk Sd
theorem upR_r : ∀ (N : Nat) (n i : Nat) (leaf : Dg) (l : List Dg) (x1 : Value) (w0 : World) (hx1 : SlT DG 0 0 l x1 w0) (h1 : 1 ≤ n) (hi : i < n) (hnn : n ≤ 100000) (hn : l.length ≤ 100000) (hN : n = N),
    Gives Tryd.prog 72 #[i64 (n : Int), i64 (i : Int), Dg.val (leaf), x1] w0 (Pr.ex (Value.tuple #[Dg.val (up n i leaf l.reverse).1, Value.bool (up n i leaf l.reverse).2])) := by
 intro N
 induction N using Nat.strongRecOn with
 | _ N ih =>
  intro n i leaf l x1 w0 hx1 h1 hi hnn hn hN
  refine enter (N := 71) Tryd.func72 rfl rfl ?_
  intro a0 N0 D0 hA
  have s0_0 : get a0 0 = i64 (n : Int) := hA 0 _ rfl
  have s1_0 : get a0 1 = i64 (i : Int) := hA 1 _ rfl
  have s2_0 : get a0 2 = Dg.val (leaf) := hA 2 _ rfl
  have s3_0 : get a0 3 = x1 := hA 3 _ rfl
  clear hA
  have E0 : Ext w0 w0 := Ext.refl w0
  have X1_0 := hx1.close
  refine wp_seq ?_
  refine Rl [6, 8] [(6, Pr.box' w0.heap.size 24 [w32 (leaf).a, w32 (leaf).b, w32 (leaf).c, w32 (leaf).d]), (8, Pr.box' w0.heap.size 24 [w32 (Dg.zero).a, w32 (Dg.zero).b, w32 (Dg.zero).c, w32 (Dg.zero).d]), (9, Pr.ex (Value.bool (false)))] 3 N0 D0 ?_ ?_
  refine Ac ?_ (Ac ?_ (Ac ?_ (Az _)))
  refine Ask.fresh rfl rfl ?_
  intro aq wq hNq hO hR hT
  exact does_box (V := Dg.val (leaf)) (oT hO s2_0 rfl) (fun b w2 he hlo hb => ⟨he, ⟨b, rfl, Nat.le_trans hR.size' hlo, hb⟩, ⟨b, rfl, hlo, hb.lt⟩⟩)
  refine Ask.fresh rfl rfl ?_
  intro aq wq hNq hO hR hT
  exact does_alloc zero_24 (fun b w2 he hlo hb => ⟨he, ⟨b, rfl, Nat.le_trans hR.size' hlo, hb⟩, ⟨b, rfl, hlo, hb.lt⟩⟩)
  exact Ap fun aq wq _ hO hR hT => does_assign (V := Value.bool (false)) rfl eR
  intro a1 wd1 N1 D1 hO hR hA hU
  obtain ⟨t6, t8, _, _⟩ := hA
  have E1 := E0.trans hR
  have s0_1 := oT hO s0_0 rfl
  have s1_1 := oT hO s1_0 rfl
  have s3_1 := oT hO s3_0 rfl
  have X1_1 := X1_0.ext' hR
  obtain ⟨b6, s6_1, lo_b6, B6_1⟩ := t6
  have nb_x1_b6 := SlT.old X1_0 lo_b6
  have fr_b6 : w0.heap.size ≤ b6 := Nat.le_trans E0.size' lo_b6
  obtain ⟨b8, s8_1, lo_b8, B8_1⟩ := t8
  have nb_x1_b8 := SlT.old X1_0 lo_b8
  have fr_b8 : w0.heap.size ≤ b8 := Nat.le_trans E0.size' lo_b8
  obtain ⟨u0, ⟨u1, _⟩⟩ := hU
  have ne_b6_b8 : b6 ≠ b8 := fun e => u0 8 (by decide) (by rw [s6_1, s8_1, e])
  clear E0 N0 D0 s0_0 s1_0 s2_0 s3_0 X1_0
  refine tail_nil ?_
  refine wp_seq ?_
  refine wp_seq ?_
  refine Rl [] [(17, Pr.ex (i64 (n : Int))), (18, Pr.ex (Value.bool (decide ((n : Int) = ((1 : Nat) : Int)))))] 2 N1 D1 ?_ ?_
  refine Ac ?_ (Ac ?_ (Az _))
  exact Am s0_1 rfl fun _ => rfl
  exact Ap fun aq wq _ hO hR hT => does_eql (a := (n : Int)) (b := ((1 : Nat) : Int)) (hT 17 rfl rfl) rfl eR
  intro a2 wd2 N2 D2 hO hR hA hU
  obtain ⟨_, t18, _⟩ := hA
  have E2 := E1.trans hR
  have s0_2 := oT hO s0_1 rfl
  have s1_2 := oT hO s1_1 rfl
  have s3_2 := oT hO s3_1 rfl
  have s6_2 := oT hO s6_1 rfl
  have s8_2 := oT hO s8_1 rfl
  have B6_2 := B6_1.ext' hR
  have B8_2 := B8_1.ext' hR
  have X1_2 := X1_1.ext' hR
  have s18_2 : get a2 18 = Value.bool (decide ((n : Int) = ((1 : Nat) : Int))) := t18
  clear E1 N1 D1 s0_1 s1_1 s3_1 s6_1 s8_1 B6_1 B8_1 X1_1
  refine tail_nil ?_
  refine wp_if (B := decide ((n : Int) = ((1 : Nat) : Int))) s18_2 (fun hc0 => ?_) (fun hc0 => ?_)
  have hc0 := of_decide_eq_true hc0
  refine wp_seq ?_
  refine Rl [] [(19, Pr.ex (Dg.val (leaf))), (20, Pr.ex (x1)), (21, Pr.ex (i64 (l.length : Int))), (22, Pr.ex (Value.bool (decide ((l.length : Int) = ((0 : Nat) : Int)))))] 4 N2 D2 ?_ ?_
  refine Ac ?_ (Ac ?_ (Ac ?_ (Ac ?_ (Az _))))
  exact Ap fun aq wq _ hO hR hT => does_loadD (o := 0) (n := 4) (mid := [w32 (leaf).a, w32 (leaf).b, w32 (leaf).c, w32 (leaf).d]) (oT hO s6_2 rfl) (B6_2.ext' hR) rfl rfl (nB rfl) row_24 rfl eR
  exact Am s3_2 rfl fun _ => rfl
  exact Ap fun aq wq _ hO hR hT => does_len (T := DG) (xs := l) sli_27 (SlT.at (hT 20 rfl rfl) (X1_2.ext' hR)) eR
  exact Ap fun aq wq _ hO hR hT => does_eql (a := (l.length : Int)) (b := ((0 : Nat) : Int)) (hT 21 rfl rfl) rfl eR
  intro a3 wd3 N3 D3 hO hR hA hU
  obtain ⟨t19, _, _, t22, _⟩ := hA
  have E3 := E2.trans hR
  have s8_3 := oT hO s8_2 rfl
  have B6_3 := B6_2.ext' hR
  have B8_3 := B8_2.ext' hR
  have X1_3 := X1_2.ext' hR
  have s19_3 : get a3 19 = Dg.val (leaf) := t19
  have s22_3 : get a3 22 = Value.bool (decide ((l.length : Int) = ((0 : Nat) : Int))) := t22
  clear E2 N2 D2 s0_2 s1_2 s3_2 s6_2 s8_2 s18_2 B6_2 B8_2 X1_2
  refine tail_none rfl rfl (does_storeD (o := 0) (n := 4) (cs' := [w32 (leaf).a, w32 (leaf).b, w32 (leaf).c, w32 (leaf).d]) (V := Dg.val (leaf)) s8_3 s19_3 B8_3 (nB rfl) rfl siz_24 rfl rfl (fun wd4 hX hz B8_4 => ?_))
  have E4 := E3.since hX (fun k e => e ▸ fr_b8)
  have B6_4 := B6_3.ext hX ne_b6_b8
  have X1_4 := SlT.over X1_3 hX nb_x1_b8
  clear hX hz E3 B6_3 B8_3 X1_3
  refine tail_put rfl rfl N3 D3 (by decide) (does_assign (V := Value.bool (decide ((l.length : Int) = ((0 : Nat) : Int)))) s22_3 (fun a5 N5 D5 hv hO => ?_))
  have s9_5 := hv
  have s8_5 := oT hO s8_3 rfl
  clear hO hv N3 D3 s8_3 s19_3 s22_3
  refine tail_nil ?_
  refine wp_ret ?_
  refine res_two (V1 := Dg.val (leaf)) (V2 := Value.bool (decide ((l.length : Int) = ((0 : Nat) : Int)))) rfl D5 (ResIs.cell s8_5 B8_4 row_24 rfl rfl) s9_5 ?_
  exact ⟨by show Value.tuple _ = Value.tuple _; rw [up_end1 (by omega), up_end2 (by omega), emptyI], E4⟩
  have hc0 := of_decide_eq_false hc0
  have h2 : 2 ≤ n := by omega
  have hh := half_lt h2
  have hp := half_pos n
  refine wp_skip ?_
  refine wp_seq ?_
  refine wp_seq ?_
  refine Rl [] [(23, Pr.ex (x1)), (24, Pr.ex (i64 (l.length : Int))), (25, Pr.ex (Value.bool (decide ((l.length : Int) = ((0 : Nat) : Int)))))] 3 N2 D2 ?_ ?_
  refine Ac ?_ (Ac ?_ (Ac ?_ (Az _)))
  exact Am s3_2 rfl fun _ => rfl
  exact Ap fun aq wq _ hO hR hT => does_len (T := DG) (xs := l) sli_27 (SlT.at (hT 23 rfl rfl) (X1_2.ext' hR)) eR
  exact Ap fun aq wq _ hO hR hT => does_eql (a := (l.length : Int)) (b := ((0 : Nat) : Int)) (hT 24 rfl rfl) rfl eR
  intro a6 wd6 N6 D6 hO hR hA hU
  obtain ⟨_, _, t25, _⟩ := hA
  have E6 := E2.trans hR
  have s0_6 := oT hO s0_2 rfl
  have s1_6 := oT hO s1_2 rfl
  have s3_6 := oT hO s3_2 rfl
  have s6_6 := oT hO s6_2 rfl
  have s8_6 := oT hO s8_2 rfl
  have B6_6 := B6_2.ext' hR
  have B8_6 := B8_2.ext' hR
  have X1_6 := X1_2.ext' hR
  have s25_6 : get a6 25 = Value.bool (decide ((l.length : Int) = ((0 : Nat) : Int))) := t25
  clear E2 N2 D2 s0_2 s1_2 s3_2 s6_2 s8_2 s18_2 B6_2 B8_2 X1_2
  refine tail_nil ?_
  refine wp_if (B := decide ((l.length : Int) = ((0 : Nat) : Int))) s25_6 (fun hc1 => ?_) (fun hc1 => ?_)
  have hc1 := of_decide_eq_true hc1
  refine wp_seq ?_
  refine Rl [] [(26, Pr.ex (Dg.val (leaf)))] 1 N6 D6 ?_ ?_
  refine Ac ?_ (Az _)
  exact Ap fun aq wq _ hO hR hT => does_loadD (o := 0) (n := 4) (mid := [w32 (leaf).a, w32 (leaf).b, w32 (leaf).c, w32 (leaf).d]) (oT hO s6_6 rfl) (B6_6.ext' hR) rfl rfl (nB rfl) row_24 rfl eR
  intro a7 wd7 N7 D7 hO hR hA hU
  obtain ⟨t26, _⟩ := hA
  have E7 := E6.trans hR
  have s8_7 := oT hO s8_6 rfl
  have B6_7 := B6_6.ext' hR
  have B8_7 := B8_6.ext' hR
  have X1_7 := X1_6.ext' hR
  have s26_7 : get a7 26 = Dg.val (leaf) := t26
  clear E6 N6 D6 s0_6 s1_6 s3_6 s6_6 s8_6 s25_6 B6_6 B8_6 X1_6
  refine tail_none rfl rfl (does_storeD (o := 0) (n := 4) (cs' := [w32 (leaf).a, w32 (leaf).b, w32 (leaf).c, w32 (leaf).d]) (V := Dg.val (leaf)) s8_7 s26_7 B8_7 (nB rfl) rfl siz_24 rfl rfl (fun wd8 hX hz B8_8 => ?_))
  have E8 := E7.since hX (fun k e => e ▸ fr_b8)
  have B6_8 := B6_7.ext hX ne_b6_b8
  have X1_8 := SlT.over X1_7 hX nb_x1_b8
  clear hX hz E7 B6_7 B8_7 X1_7
  refine tail_put rfl rfl N7 D7 (by decide) (does_assign (V := Value.bool (false)) rfl (fun a9 N9 D9 hv hO => ?_))
  have s9_9 := hv
  have s8_9 := oT hO s8_7 rfl
  clear hO hv N7 D7 s8_7 s26_7
  refine tail_nil ?_
  refine wp_ret ?_
  refine res_two (V1 := Dg.val (leaf)) (V2 := Value.bool (false)) rfl D9 (ResIs.cell s8_9 B8_8 row_24 rfl rfl) s9_9 ?_
  exact ⟨by show Value.tuple _ = Value.tuple _; rw [rev_nil (by omega), up_nil1 h2, up_nil2 h2], E8⟩
  have hc1 := of_decide_eq_false hc1
  obtain ⟨z, hz⟩ := get_of_lt (l := l) (k := l.length - 1) (by omega)
  refine wp_skip ?_
  refine wp_seq ?_
  refine Rl [10] [(27, Pr.ex (x1)), (28, Pr.ex (x1)), (29, Pr.ex (i64 (l.length : Int))), (30, Pr.ex (i64 ((l.length - 1 : Nat) : Int))), (31, Pr.pt' 0 (w0.heap.size + 1) [w32 (z).a, w32 (z).b, w32 (z).c, w32 (z).d]), (32, Pr.ex (Dg.val (z))), (10, Pr.box' wd6.heap.size 24 [w32 (Dg.zero).a, w32 (Dg.zero).b, w32 (Dg.zero).c, w32 (Dg.zero).d])] 7 N6 D6 ?_ ?_
  refine Ac ?_ (Ac ?_ (Ac ?_ (Ac ?_ (Ac ?_ (Ac ?_ (Ac ?_ (Az _)))))))
  exact Am s3_6 rfl fun _ => rfl
  exact Am s3_6 rfl fun _ => rfl
  exact Ap fun aq wq _ hO hR hT => does_len (T := DG) (xs := l) sli_27 (SlT.at (hT 28 rfl rfl) (X1_6.ext' hR)) eR
  exact Ap fun aq wq _ hO hR hT => does_sub (a := (l.length : Int)) (b := ((1 : Nat) : Int)) (r := ((l.length - 1 : Nat) : Int)) (hT 29 rfl rfl) rfl (by omega) (by omega) (by omega) eR
  exact Ap fun aq wq _ hO hR hT => does_indexSl (T := DG) (xs := l) (i := ((l.length - 1 : Nat) : Int)) (X := z) sli_27 rfl (SlT.at (hT 27 rfl rfl) (X1_6.ext' hR)) (hT 30 rfl rfl) (by omega) (by simpa using hz) (fun v h => ⟨Ext.refl _, h⟩)
  exact Ap fun aq wq _ hO hR hT => does_loadP (cs := [w32 (z).a, w32 (z).b, w32 (z).c, w32 (z).d]) (hT 31 rfl rfl) row_24 rfl eR
  refine Ask.fresh rfl rfl ?_
  intro aq wq hNq hO hR hT
  exact does_alloc zero_24 (fun b w2 he hlo hb => ⟨he, ⟨b, rfl, Nat.le_trans hR.size' hlo, hb⟩, ⟨b, rfl, hlo, hb.lt⟩⟩)
  intro a10 wd10 N10 D10 hO hR hA hU
  obtain ⟨_, _, _, _, _, t32, t10, _⟩ := hA
  have E10 := E6.trans hR
  have s0_10 := oT hO s0_6 rfl
  have s1_10 := oT hO s1_6 rfl
  have s3_10 := oT hO s3_6 rfl
  have s6_10 := oT hO s6_6 rfl
  have s8_10 := oT hO s8_6 rfl
  have B6_10 := B6_6.ext' hR
  have B8_10 := B8_6.ext' hR
  have X1_10 := X1_6.ext' hR
  have s32_10 : get a10 32 = Dg.val (z) := t32
  obtain ⟨b10, s10_10, lo_b10, B10_10⟩ := t10
  have ne_b6_b10 := Hl B6_6 lo_b10
  have ne_b8_b10 := Hl B8_6 lo_b10
  have nb_x1_b10 := SlT.old X1_6 lo_b10
  have fr_b10 : w0.heap.size ≤ b10 := Nat.le_trans E6.size' lo_b10
  clear E6 N6 D6 s0_6 s1_6 s3_6 s6_6 s8_6 s25_6 B6_6 B8_6 X1_6
  refine tail_none rfl rfl (does_storeD (o := 0) (n := 4) (cs' := [w32 (z).a, w32 (z).b, w32 (z).c, w32 (z).d]) (V := Dg.val (z)) s10_10 s32_10 B10_10 (nB rfl) rfl siz_24 rfl rfl (fun wd11 hX hz B10_11 => ?_))
  have E11 := E10.since hX (fun k e => e ▸ fr_b10)
  have B6_11 := B6_10.ext hX ne_b6_b10
  have B8_11 := B8_10.ext hX ne_b8_b10
  have X1_11 := SlT.over X1_10 hX nb_x1_b10
  clear hX hz E10 B6_10 B8_10 B10_10 X1_10
  refine tail_nil ?_
  refine wp_seq ?_
  refine Rl [] [(33, Pr.ex (x1)), (34, Pr.ex (x1)), (35, Pr.ex (i64 (l.length : Int))), (36, Pr.ex (i64 ((l.length - 1 : Nat) : Int))), (37, Pr.sl' DG 0 (w0.heap.size + 1) (l.take (l.length - 1))), (11, Pr.sl' DG 0 (w0.heap.size + 1) (l.take (l.length - 1)))] 6 N10 D10 ?_ ?_
  refine Ac ?_ (Ac ?_ (Ac ?_ (Ac ?_ (Ac ?_ (Ac ?_ (Az _))))))
  exact Am s3_10 rfl fun _ => rfl
  exact Am s3_10 rfl fun _ => rfl
  exact Ap fun aq wq _ hO hR hT => does_len (T := DG) (xs := l) sli_27 (SlT.at (hT 34 rfl rfl) (X1_11.ext' hR)) eR
  exact Ap fun aq wq _ hO hR hT => does_sub (a := (l.length : Int)) (b := ((1 : Nat) : Int)) (r := ((l.length - 1 : Nat) : Int)) (hT 35 rfl rfl) rfl (by omega) (by omega) (by omega) eR
  exact Ap fun aq wq _ hO hR hT => does_sliceHi (T := DG) (xs := l) (k := ((l.length - 1 : Nat) : Int)) sli_27 rfl (SlT.at (hT 33 rfl rfl) (X1_11.ext' hR)) (hT 36 rfl rfl) (by omega) (by omega) (fun v h => ⟨Ext.refl _, h⟩)
  exact Ap fun aq wq _ hO hR hT => does_assign rfl ⟨Ext.refl _, (hT 37 rfl rfl)⟩
  intro a12 wd12 N12 D12 hO hR hA hU
  obtain ⟨_, _, _, _, _, t11, _⟩ := hA
  have E12 := E11.trans hR
  have s0_12 := oT hO s0_10 rfl
  have s1_12 := oT hO s1_10 rfl
  have s6_12 := oT hO s6_10 rfl
  have s8_12 := oT hO s8_10 rfl
  have s10_12 := oT hO s10_10 rfl
  have B6_12 := B6_11.ext' hR
  have B8_12 := B8_11.ext' hR
  have B10_12 := B10_11.ext' hR
  have X1_12 := X1_11.ext' hR
  obtain ⟨x11, s11_12⟩ : ∃ x, get a12 11 = x := ⟨_, rfl⟩
  replace t11 : SlT DG 0 (w0.heap.size + 1) (l.take (l.length - 1)) x11 wd12 := by rw [← s11_12]; exact t11
  have X11_12 := t11
  clear E11 N10 D10 s0_10 s1_10 s3_10 s6_10 s8_10 s10_10 s32_10 B6_11 B8_11 B10_11 X1_11
  refine tail_nil ?_
  refine wp_seq ?_
  refine Rl [] [(38, Pr.ex (i64 (n : Int))), (39, Pr.ex (i64 ((half n : Nat) : Int))), (12, Pr.ex (i64 ((half n : Nat) : Int)))] 3 N12 D12 ?_ ?_
  refine Ac ?_ (Ac ?_ (Ac ?_ (Az _)))
  exact Am s0_12 rfl fun _ => rfl
  exact Ap fun aq wq _ hO hR hT => does_ret (vs := #[i64 (n : Int)]) call_73 (args1 (hT 38 rfl rfl)) rfl ((halfR (n) wq (by omega) (by omega)).mono fun v w2 h => ⟨h.2, h.1⟩)
  exact Ap fun aq wq _ hO hR hT => does_assign (V := i64 ((half n : Nat) : Int)) (hT 39 rfl rfl) eR
  intro a13 wd13 N13 D13 hO hR hA hU
  obtain ⟨_, _, t12, _⟩ := hA
  have E13 := E12.trans hR
  have s0_13 := oT hO s0_12 rfl
  have s1_13 := oT hO s1_12 rfl
  have s6_13 := oT hO s6_12 rfl
  have s8_13 := oT hO s8_12 rfl
  have s10_13 := oT hO s10_12 rfl
  have s11_13 := oT hO s11_12 rfl
  have B6_13 := B6_12.ext' hR
  have B8_13 := B8_12.ext' hR
  have B10_13 := B10_12.ext' hR
  have X1_13 := X1_12.ext' hR
  have X11_13 := X11_12.ext' hR
  have s12_13 : get a13 12 = i64 ((half n : Nat) : Int) := t12
  clear E12 N12 D12 s0_12 s1_12 s6_12 s8_12 s10_12 s11_12 B6_12 B8_12 B10_12 X1_12 X11_12
  refine tail_nil ?_
  refine wp_seq ?_
  refine wp_seq ?_
  refine Rl [] [(40, Pr.ex (i64 (i : Int))), (41, Pr.ex (i64 ((half n : Nat) : Int))), (42, Pr.ex (Value.bool (decide ((i : Int) < ((half n : Nat) : Int)))))] 3 N13 D13 ?_ ?_
  refine Ac ?_ (Ac ?_ (Ac ?_ (Az _)))
  exact Am s1_13 rfl fun _ => rfl
  exact Am s12_13 rfl fun _ => rfl
  exact Ap fun aq wq _ hO hR hT => does_lss (a := (i : Int)) (b := ((half n : Nat) : Int)) (hT 40 rfl rfl) (hT 41 rfl rfl) eR
  intro a14 wd14 N14 D14 hO hR hA hU
  obtain ⟨_, _, t42, _⟩ := hA
  have E14 := E13.trans hR
  have s0_14 := oT hO s0_13 rfl
  have s1_14 := oT hO s1_13 rfl
  have s6_14 := oT hO s6_13 rfl
  have s8_14 := oT hO s8_13 rfl
  have s10_14 := oT hO s10_13 rfl
  have s11_14 := oT hO s11_13 rfl
  have s12_14 := oT hO s12_13 rfl
  have B6_14 := B6_13.ext' hR
  have B8_14 := B8_13.ext' hR
  have B10_14 := B10_13.ext' hR
  have X1_14 := X1_13.ext' hR
  have X11_14 := X11_13.ext' hR
  have s42_14 : get a14 42 = Value.bool (decide ((i : Int) < ((half n : Nat) : Int))) := t42
  clear E13 N13 D13 s0_13 s1_13 s6_13 s8_13 s10_13 s11_13 s12_13 B6_13 B8_13 B10_13 X1_13 X11_13
  refine tail_nil ?_
  refine wp_if (B := decide ((i : Int) < ((half n : Nat) : Int))) s42_14 (fun hc2 => ?_) (fun hc2 => ?_)
  have hc2 := of_decide_eq_true hc2
  have hlt : i < half n := by omega
  refine wp_seq ?_
  refine Rl [13] [(44, Pr.ex (i64 ((half n : Nat) : Int))), (45, Pr.ex (i64 (i : Int))), (46, Pr.ex (Dg.val (leaf))), (47, Pr.ex (x11)), (48, Pr.ex (Value.tuple #[Dg.val ((up (half n) i leaf (l.take (l.length - 1)).reverse).1), Value.bool ((up (half n) i leaf (l.take (l.length - 1)).reverse).2)])), (43, Pr.ex (Value.tuple #[Dg.val ((up (half n) i leaf (l.take (l.length - 1)).reverse).1), Value.bool ((up (half n) i leaf (l.take (l.length - 1)).reverse).2)])), (49, Pr.ex (Dg.val ((up (half n) i leaf (l.take (l.length - 1)).reverse).1))), (50, Pr.ex (Value.bool ((up (half n) i leaf (l.take (l.length - 1)).reverse).2))), (13, Pr.box' wd14.heap.size 24 [w32 (Dg.zero).a, w32 (Dg.zero).b, w32 (Dg.zero).c, w32 (Dg.zero).d])] 9 N14 D14 ?_ ?_
  refine Ac ?_ (Ac ?_ (Ac ?_ (Ac ?_ (Ac ?_ (Ac ?_ (Ac ?_ (Ac ?_ (Ac ?_ (Az _)))))))))
  exact Am s12_14 rfl fun _ => rfl
  exact Am s1_14 rfl fun _ => rfl
  exact Ap fun aq wq _ hO hR hT => does_loadD (o := 0) (n := 4) (mid := [w32 (leaf).a, w32 (leaf).b, w32 (leaf).c, w32 (leaf).d]) (oT hO s6_14 rfl) (B6_14.ext' hR) rfl rfl (nB rfl) row_24 rfl eR
  exact Am s11_14 rfl fun _ => rfl
  exact Ap fun aq wq _ hO hR hT => does_ret (vs := #[i64 ((half n : Nat) : Int), i64 (i : Int), Dg.val (leaf), x11]) call_72 (args4 (hT 44 rfl rfl) (hT 45 rfl rfl) (hT 46 rfl rfl) (hT 47 rfl rfl)) rfl ((ih _ (by omega) (half n) i leaf (l.take (l.length - 1)) (x11) wq ((X11_14.ext' hR).wide (Nat.zero_le _) (.inl rfl)) (by omega) (by omega) (by omega) (by simp only [List.length_take]; omega) rfl).mono fun v w2 h => ⟨h.2, h.1⟩)
  exact Ap fun aq wq _ hO hR hT => does_move (V := Value.tuple #[Dg.val ((up (half n) i leaf (l.take (l.length - 1)).reverse).1), Value.bool ((up (half n) i leaf (l.take (l.length - 1)).reverse).2)]) (hT 48 rfl rfl) eR
  exact Ap fun aq wq _ hO hR hT => does_extract (V := Dg.val ((up (half n) i leaf (l.take (l.length - 1)).reverse).1)) (hT 43 rfl rfl) rfl eR
  exact Ap fun aq wq _ hO hR hT => does_extract (V := Value.bool ((up (half n) i leaf (l.take (l.length - 1)).reverse).2)) (hT 43 rfl rfl) rfl eR
  refine Ask.fresh rfl rfl ?_
  intro aq wq hNq hO hR hT
  exact does_alloc zero_24 (fun b w2 he hlo hb => ⟨he, ⟨b, rfl, Nat.le_trans hR.size' hlo, hb⟩, ⟨b, rfl, hlo, hb.lt⟩⟩)
  intro a15 wd15 N15 D15 hO hR hA hU
  obtain ⟨_, _, _, _, _, _, t49, t50, t13, _⟩ := hA
  have E15 := E14.trans hR
  have s8_15 := oT hO s8_14 rfl
  have s10_15 := oT hO s10_14 rfl
  have B6_15 := B6_14.ext' hR
  have B8_15 := B8_14.ext' hR
  have B10_15 := B10_14.ext' hR
  have X1_15 := X1_14.ext' hR
  have X11_15 := X11_14.ext' hR
  have s49_15 : get a15 49 = Dg.val ((up (half n) i leaf (l.take (l.length - 1)).reverse).1) := t49
  have s50_15 : get a15 50 = Value.bool ((up (half n) i leaf (l.take (l.length - 1)).reverse).2) := t50
  obtain ⟨b13, s13_15, lo_b13, B13_15⟩ := t13
  have ne_b6_b13 := Hl B6_14 lo_b13
  have ne_b8_b13 := Hl B8_14 lo_b13
  have ne_b10_b13 := Hl B10_14 lo_b13
  have nb_x1_b13 := SlT.old X1_14 lo_b13
  have nb_x11_b13 := SlT.old X11_14 lo_b13
  have fr_b13 : w0.heap.size ≤ b13 := Nat.le_trans E14.size' lo_b13
  clear E14 N14 D14 s0_14 s1_14 s6_14 s8_14 s10_14 s11_14 s12_14 s42_14 B6_14 B8_14 B10_14 X1_14 X11_14
  refine tail_none rfl rfl (does_storeD (o := 0) (n := 4) (cs' := [w32 ((up (half n) i leaf (l.take (l.length - 1)).reverse).1).a, w32 ((up (half n) i leaf (l.take (l.length - 1)).reverse).1).b, w32 ((up (half n) i leaf (l.take (l.length - 1)).reverse).1).c, w32 ((up (half n) i leaf (l.take (l.length - 1)).reverse).1).d]) (V := Dg.val ((up (half n) i leaf (l.take (l.length - 1)).reverse).1)) s13_15 s49_15 B13_15 (nB rfl) rfl siz_24 rfl rfl (fun wd16 hX hz B13_16 => ?_))
  have E16 := E15.since hX (fun k e => e ▸ fr_b13)
  have B6_16 := B6_15.ext hX ne_b6_b13
  have B8_16 := B8_15.ext hX ne_b8_b13
  have B10_16 := B10_15.ext hX ne_b10_b13
  have X1_16 := SlT.over X1_15 hX nb_x1_b13
  have X11_16 := SlT.over X11_15 hX nb_x11_b13
  clear hX hz E15 B6_15 B8_15 B10_15 B13_15 X1_15 X11_15
  refine tail_put rfl rfl N15 D15 (by decide) (does_assign (V := Value.bool ((up (half n) i leaf (l.take (l.length - 1)).reverse).2)) s50_15 (fun a17 N17 D17 hv hO => ?_))
  have s14_17 := hv
  have s8_17 := oT hO s8_15 rfl
  have s10_17 := oT hO s10_15 rfl
  have s13_17 := oT hO s13_15 rfl
  clear hO hv N15 D15 s8_15 s10_15 s13_15 s49_15 s50_15
  refine tail_nil ?_
  refine wp_seq ?_
  refine Rl [] [(51, Pr.ex (Dg.val ((up (half n) i leaf (l.take (l.length - 1)).reverse).1))), (52, Pr.ex (Dg.val (z))), (53, Pr.ex (Dg.val (pair ((up (half n) i leaf (l.take (l.length - 1)).reverse).1) z))), (54, Pr.ex (Value.bool ((up (half n) i leaf (l.take (l.length - 1)).reverse).2)))] 4 N17 D17 ?_ ?_
  refine Ac ?_ (Ac ?_ (Ac ?_ (Ac ?_ (Az _))))
  exact Ap fun aq wq _ hO hR hT => does_loadD (o := 0) (n := 4) (mid := [w32 ((up (half n) i leaf (l.take (l.length - 1)).reverse).1).a, w32 ((up (half n) i leaf (l.take (l.length - 1)).reverse).1).b, w32 ((up (half n) i leaf (l.take (l.length - 1)).reverse).1).c, w32 ((up (half n) i leaf (l.take (l.length - 1)).reverse).1).d]) (oT hO s13_17 rfl) (B13_16.ext' hR) rfl rfl (nB rfl) row_24 rfl eR
  exact Ap fun aq wq _ hO hR hT => does_loadD (o := 0) (n := 4) (mid := [w32 (z).a, w32 (z).b, w32 (z).c, w32 (z).d]) (oT hO s10_17 rfl) (B10_16.ext' hR) rfl rfl (nB rfl) row_24 rfl eR
  exact Ap fun aq wq _ hO hR hT => does_ret (vs := #[Dg.val ((up (half n) i leaf (l.take (l.length - 1)).reverse).1), Dg.val (z)]) call_23 (args2 (hT 51 rfl rfl) (hT 52 rfl rfl)) rfl ((pairR ((up (half n) i leaf (l.take (l.length - 1)).reverse).1) (z) wq).mono fun v w2 h => ⟨h.2, h.1⟩)
  exact Am s14_17 rfl fun _ => rfl
  intro a18 wd18 N18 D18 hO hR hA hU
  obtain ⟨_, _, t53, t54, _⟩ := hA
  have E18 := E16.trans hR
  have s8_18 := oT hO s8_17 rfl
  have B6_18 := B6_16.ext' hR
  have B8_18 := B8_16.ext' hR
  have B10_18 := B10_16.ext' hR
  have B13_18 := B13_16.ext' hR
  have X1_18 := X1_16.ext' hR
  have X11_18 := X11_16.ext' hR
  have s53_18 : get a18 53 = Dg.val (pair ((up (half n) i leaf (l.take (l.length - 1)).reverse).1) z) := t53
  have s54_18 : get a18 54 = Value.bool ((up (half n) i leaf (l.take (l.length - 1)).reverse).2) := t54
  clear E16 N17 D17 s8_17 s10_17 s13_17 s14_17 B6_16 B8_16 B10_16 B13_16 X1_16 X11_16
  refine tail_none rfl rfl (does_storeD (o := 0) (n := 4) (cs' := [w32 (pair ((up (half n) i leaf (l.take (l.length - 1)).reverse).1) z).a, w32 (pair ((up (half n) i leaf (l.take (l.length - 1)).reverse).1) z).b, w32 (pair ((up (half n) i leaf (l.take (l.length - 1)).reverse).1) z).c, w32 (pair ((up (half n) i leaf (l.take (l.length - 1)).reverse).1) z).d]) (V := Dg.val (pair ((up (half n) i leaf (l.take (l.length - 1)).reverse).1) z)) s8_18 s53_18 B8_18 (nB rfl) rfl siz_24 rfl rfl (fun wd19 hX hz B8_19 => ?_))
  have E19 := E18.since hX (fun k e => e ▸ fr_b8)
  have B6_19 := B6_18.ext hX ne_b6_b8
  have B10_19 := B10_18.ext hX ne_b8_b10.symm
  have B13_19 := B13_18.ext hX ne_b8_b13.symm
  have X1_19 := SlT.over X1_18 hX nb_x1_b8
  have X11_19 := SlT.over X11_18 hX (SlT.low X11_18 fr_b8)
  clear hX hz E18 B6_18 B8_18 B10_18 B13_18 X1_18 X11_18
  refine tail_put rfl rfl N18 D18 (by decide) (does_assign (V := Value.bool ((up (half n) i leaf (l.take (l.length - 1)).reverse).2)) s54_18 (fun a20 N20 D20 hv hO => ?_))
  have s9_20 := hv
  have s8_20 := oT hO s8_18 rfl
  clear hO hv N18 D18 s8_18 s53_18 s54_18
  refine tail_nil ?_
  refine wp_ret ?_
  refine res_two (V1 := Dg.val (pair ((up (half n) i leaf (l.take (l.length - 1)).reverse).1) z)) (V2 := Value.bool ((up (half n) i leaf (l.take (l.length - 1)).reverse).2)) rfl D20 (ResIs.cell s8_20 B8_19 row_24 rfl rfl) s9_20 ?_
  have hr := rev_of hz (by omega)
  exact ⟨by show Value.tuple _ = Value.tuple _; rw [hr, up_lo1 h2 hlt, up_lo2 h2 hlt], E19⟩
  have hc2 := of_decide_eq_false hc2
  have hge : ¬ i < half n := by omega
  refine wp_skip ?_
  refine wp_seq ?_
  refine Rl [15] [(56, Pr.ex (i64 (n : Int))), (57, Pr.ex (i64 ((half n : Nat) : Int))), (58, Pr.ex (i64 ((n - (half n) : Nat) : Int))), (59, Pr.ex (i64 (i : Int))), (60, Pr.ex (i64 ((half n : Nat) : Int))), (61, Pr.ex (i64 ((i - (half n) : Nat) : Int))), (62, Pr.ex (Dg.val (leaf))), (63, Pr.ex (x11)), (64, Pr.ex (Value.tuple #[Dg.val ((up (n - (half n)) (i - (half n)) leaf (l.take (l.length - 1)).reverse).1), Value.bool ((up (n - (half n)) (i - (half n)) leaf (l.take (l.length - 1)).reverse).2)])), (55, Pr.ex (Value.tuple #[Dg.val ((up (n - (half n)) (i - (half n)) leaf (l.take (l.length - 1)).reverse).1), Value.bool ((up (n - (half n)) (i - (half n)) leaf (l.take (l.length - 1)).reverse).2)])), (65, Pr.ex (Dg.val ((up (n - (half n)) (i - (half n)) leaf (l.take (l.length - 1)).reverse).1))), (66, Pr.ex (Value.bool ((up (n - (half n)) (i - (half n)) leaf (l.take (l.length - 1)).reverse).2))), (15, Pr.box' wd14.heap.size 24 [w32 (Dg.zero).a, w32 (Dg.zero).b, w32 (Dg.zero).c, w32 (Dg.zero).d])] 13 N14 D14 ?_ ?_
  refine Ac ?_ (Ac ?_ (Ac ?_ (Ac ?_ (Ac ?_ (Ac ?_ (Ac ?_ (Ac ?_ (Ac ?_ (Ac ?_ (Ac ?_ (Ac ?_ (Ac ?_ (Az _)))))))))))))
  exact Am s0_14 rfl fun _ => rfl
  exact Am s12_14 rfl fun _ => rfl
  exact Ap fun aq wq _ hO hR hT => does_sub (a := (n : Int)) (b := ((half n : Nat) : Int)) (r := ((n - (half n) : Nat) : Int)) (hT 56 rfl rfl) (hT 57 rfl rfl) (by omega) (by omega) (by omega) eR
  exact Am s1_14 rfl fun _ => rfl
  exact Am s12_14 rfl fun _ => rfl
  exact Ap fun aq wq _ hO hR hT => does_sub (a := (i : Int)) (b := ((half n : Nat) : Int)) (r := ((i - (half n) : Nat) : Int)) (hT 59 rfl rfl) (hT 60 rfl rfl) (by omega) (by omega) (by omega) eR
  exact Ap fun aq wq _ hO hR hT => does_loadD (o := 0) (n := 4) (mid := [w32 (leaf).a, w32 (leaf).b, w32 (leaf).c, w32 (leaf).d]) (oT hO s6_14 rfl) (B6_14.ext' hR) rfl rfl (nB rfl) row_24 rfl eR
  exact Am s11_14 rfl fun _ => rfl
  exact Ap fun aq wq _ hO hR hT => does_ret (vs := #[i64 ((n - (half n) : Nat) : Int), i64 ((i - (half n) : Nat) : Int), Dg.val (leaf), x11]) call_72 (args4 (hT 58 rfl rfl) (hT 61 rfl rfl) (hT 62 rfl rfl) (hT 63 rfl rfl)) rfl ((ih _ (by omega) (n - (half n)) (i - (half n)) leaf (l.take (l.length - 1)) (x11) wq ((X11_14.ext' hR).wide (Nat.zero_le _) (.inl rfl)) (by omega) (by omega) (by omega) (by simp only [List.length_take]; omega) rfl).mono fun v w2 h => ⟨h.2, h.1⟩)
  exact Ap fun aq wq _ hO hR hT => does_move (V := Value.tuple #[Dg.val ((up (n - (half n)) (i - (half n)) leaf (l.take (l.length - 1)).reverse).1), Value.bool ((up (n - (half n)) (i - (half n)) leaf (l.take (l.length - 1)).reverse).2)]) (hT 64 rfl rfl) eR
  exact Ap fun aq wq _ hO hR hT => does_extract (V := Dg.val ((up (n - (half n)) (i - (half n)) leaf (l.take (l.length - 1)).reverse).1)) (hT 55 rfl rfl) rfl eR
  exact Ap fun aq wq _ hO hR hT => does_extract (V := Value.bool ((up (n - (half n)) (i - (half n)) leaf (l.take (l.length - 1)).reverse).2)) (hT 55 rfl rfl) rfl eR
  refine Ask.fresh rfl rfl ?_
  intro aq wq hNq hO hR hT
  exact does_alloc zero_24 (fun b w2 he hlo hb => ⟨he, ⟨b, rfl, Nat.le_trans hR.size' hlo, hb⟩, ⟨b, rfl, hlo, hb.lt⟩⟩)
  intro a21 wd21 N21 D21 hO hR hA hU
  obtain ⟨_, _, _, _, _, _, _, _, _, _, t65, t66, t15, _⟩ := hA
  have E21 := E14.trans hR
  have s8_21 := oT hO s8_14 rfl
  have s10_21 := oT hO s10_14 rfl
  have B6_21 := B6_14.ext' hR
  have B8_21 := B8_14.ext' hR
  have B10_21 := B10_14.ext' hR
  have X1_21 := X1_14.ext' hR
  have X11_21 := X11_14.ext' hR
  have s65_21 : get a21 65 = Dg.val ((up (n - (half n)) (i - (half n)) leaf (l.take (l.length - 1)).reverse).1) := t65
  have s66_21 : get a21 66 = Value.bool ((up (n - (half n)) (i - (half n)) leaf (l.take (l.length - 1)).reverse).2) := t66
  obtain ⟨b15, s15_21, lo_b15, B15_21⟩ := t15
  have ne_b6_b15 := Hl B6_14 lo_b15
  have ne_b8_b15 := Hl B8_14 lo_b15
  have ne_b10_b15 := Hl B10_14 lo_b15
  have nb_x1_b15 := SlT.old X1_14 lo_b15
  have nb_x11_b15 := SlT.old X11_14 lo_b15
  have fr_b15 : w0.heap.size ≤ b15 := Nat.le_trans E14.size' lo_b15
  clear E14 N14 D14 s0_14 s1_14 s6_14 s8_14 s10_14 s11_14 s12_14 s42_14 B6_14 B8_14 B10_14 X1_14 X11_14
  refine tail_none rfl rfl (does_storeD (o := 0) (n := 4) (cs' := [w32 ((up (n - (half n)) (i - (half n)) leaf (l.take (l.length - 1)).reverse).1).a, w32 ((up (n - (half n)) (i - (half n)) leaf (l.take (l.length - 1)).reverse).1).b, w32 ((up (n - (half n)) (i - (half n)) leaf (l.take (l.length - 1)).reverse).1).c, w32 ((up (n - (half n)) (i - (half n)) leaf (l.take (l.length - 1)).reverse).1).d]) (V := Dg.val ((up (n - (half n)) (i - (half n)) leaf (l.take (l.length - 1)).reverse).1)) s15_21 s65_21 B15_21 (nB rfl) rfl siz_24 rfl rfl (fun wd22 hX hz B15_22 => ?_))
  have E22 := E21.since hX (fun k e => e ▸ fr_b15)
  have B6_22 := B6_21.ext hX ne_b6_b15
  have B8_22 := B8_21.ext hX ne_b8_b15
  have B10_22 := B10_21.ext hX ne_b10_b15
  have X1_22 := SlT.over X1_21 hX nb_x1_b15
  have X11_22 := SlT.over X11_21 hX nb_x11_b15
  clear hX hz E21 B6_21 B8_21 B10_21 B15_21 X1_21 X11_21
  refine tail_put rfl rfl N21 D21 (by decide) (does_assign (V := Value.bool ((up (n - (half n)) (i - (half n)) leaf (l.take (l.length - 1)).reverse).2)) s66_21 (fun a23 N23 D23 hv hO => ?_))
  have s16_23 := hv
  have s8_23 := oT hO s8_21 rfl
  have s10_23 := oT hO s10_21 rfl
  have s15_23 := oT hO s15_21 rfl
  clear hO hv N21 D21 s8_21 s10_21 s15_21 s65_21 s66_21
  refine tail_nil ?_
  refine wp_seq ?_
  refine Rl [] [(67, Pr.ex (Dg.val (z))), (68, Pr.ex (Dg.val ((up (n - (half n)) (i - (half n)) leaf (l.take (l.length - 1)).reverse).1))), (69, Pr.ex (Dg.val (pair z ((up (n - (half n)) (i - (half n)) leaf (l.take (l.length - 1)).reverse).1)))), (70, Pr.ex (Value.bool ((up (n - (half n)) (i - (half n)) leaf (l.take (l.length - 1)).reverse).2)))] 4 N23 D23 ?_ ?_
  refine Ac ?_ (Ac ?_ (Ac ?_ (Ac ?_ (Az _))))
  exact Ap fun aq wq _ hO hR hT => does_loadD (o := 0) (n := 4) (mid := [w32 (z).a, w32 (z).b, w32 (z).c, w32 (z).d]) (oT hO s10_23 rfl) (B10_22.ext' hR) rfl rfl (nB rfl) row_24 rfl eR
  exact Ap fun aq wq _ hO hR hT => does_loadD (o := 0) (n := 4) (mid := [w32 ((up (n - (half n)) (i - (half n)) leaf (l.take (l.length - 1)).reverse).1).a, w32 ((up (n - (half n)) (i - (half n)) leaf (l.take (l.length - 1)).reverse).1).b, w32 ((up (n - (half n)) (i - (half n)) leaf (l.take (l.length - 1)).reverse).1).c, w32 ((up (n - (half n)) (i - (half n)) leaf (l.take (l.length - 1)).reverse).1).d]) (oT hO s15_23 rfl) (B15_22.ext' hR) rfl rfl (nB rfl) row_24 rfl eR
  exact Ap fun aq wq _ hO hR hT => does_ret (vs := #[Dg.val (z), Dg.val ((up (n - (half n)) (i - (half n)) leaf (l.take (l.length - 1)).reverse).1)]) call_23 (args2 (hT 67 rfl rfl) (hT 68 rfl rfl)) rfl ((pairR (z) ((up (n - (half n)) (i - (half n)) leaf (l.take (l.length - 1)).reverse).1) wq).mono fun v w2 h => ⟨h.2, h.1⟩)
  exact Am s16_23 rfl fun _ => rfl
  intro a24 wd24 N24 D24 hO hR hA hU
  obtain ⟨_, _, t69, t70, _⟩ := hA
  have E24 := E22.trans hR
  have s8_24 := oT hO s8_23 rfl
  have B6_24 := B6_22.ext' hR
  have B8_24 := B8_22.ext' hR
  have B10_24 := B10_22.ext' hR
  have B15_24 := B15_22.ext' hR
  have X1_24 := X1_22.ext' hR
  have X11_24 := X11_22.ext' hR
  have s69_24 : get a24 69 = Dg.val (pair z ((up (n - (half n)) (i - (half n)) leaf (l.take (l.length - 1)).reverse).1)) := t69
  have s70_24 : get a24 70 = Value.bool ((up (n - (half n)) (i - (half n)) leaf (l.take (l.length - 1)).reverse).2) := t70
  clear E22 N23 D23 s8_23 s10_23 s15_23 s16_23 B6_22 B8_22 B10_22 B15_22 X1_22 X11_22
  refine tail_none rfl rfl (does_storeD (o := 0) (n := 4) (cs' := [w32 (pair z ((up (n - (half n)) (i - (half n)) leaf (l.take (l.length - 1)).reverse).1)).a, w32 (pair z ((up (n - (half n)) (i - (half n)) leaf (l.take (l.length - 1)).reverse).1)).b, w32 (pair z ((up (n - (half n)) (i - (half n)) leaf (l.take (l.length - 1)).reverse).1)).c, w32 (pair z ((up (n - (half n)) (i - (half n)) leaf (l.take (l.length - 1)).reverse).1)).d]) (V := Dg.val (pair z ((up (n - (half n)) (i - (half n)) leaf (l.take (l.length - 1)).reverse).1))) s8_24 s69_24 B8_24 (nB rfl) rfl siz_24 rfl rfl (fun wd25 hX hz B8_25 => ?_))
  have E25 := E24.since hX (fun k e => e ▸ fr_b8)
  have B6_25 := B6_24.ext hX ne_b6_b8
  have B10_25 := B10_24.ext hX ne_b8_b10.symm
  have B15_25 := B15_24.ext hX ne_b8_b15.symm
  have X1_25 := SlT.over X1_24 hX nb_x1_b8
  have X11_25 := SlT.over X11_24 hX (SlT.low X11_24 fr_b8)
  clear hX hz E24 B6_24 B8_24 B10_24 B15_24 X1_24 X11_24
  refine tail_put rfl rfl N24 D24 (by decide) (does_assign (V := Value.bool ((up (n - (half n)) (i - (half n)) leaf (l.take (l.length - 1)).reverse).2)) s70_24 (fun a26 N26 D26 hv hO => ?_))
  have s9_26 := hv
  have s8_26 := oT hO s8_24 rfl
  clear hO hv N24 D24 s8_24 s69_24 s70_24
  refine tail_nil ?_
  refine wp_ret ?_
  refine res_two (V1 := Dg.val (pair z ((up (n - (half n)) (i - (half n)) leaf (l.take (l.length - 1)).reverse).1))) (V2 := Value.bool ((up (n - (half n)) (i - (half n)) leaf (l.take (l.length - 1)).reverse).2)) rfl D26 (ResIs.cell s8_26 B8_25 row_24 rfl rfl) s9_26 ?_
  have hr := rev_of hz (by omega)
  exact ⟨by show Value.tuple _ = Value.tuple _; rw [hr, up_hi1 h2 hge, up_hi2 h2 hge], E25⟩
theorem upR (n i : Nat) (leaf : Dg) (l : List Dg) (x1 : Value) (w0 : World) (hx1 : SlT DG 0 0 l x1 w0) (h1 : 1 ≤ n) (hi : i < n) (hnn : n ≤ 100000) (hn : l.length ≤ 100000) :
    Gives Tryd.prog 72 #[i64 (n : Int), i64 (i : Int), Dg.val (leaf), x1] w0 (Pr.ex (Value.tuple #[Dg.val (up n i leaf l.reverse).1, Value.bool (up n i leaf l.reverse).2])) := upR_r _ n i leaf l x1 w0 hx1 h1 hi hnn hn rfl

theorem upRI (n i : Int) (leaf : Dg) (l : List Dg) (x1 : Value) (w0 : World) (hx1 : SlT DG 0 0 l x1 w0) (h0 : 0 ≤ i) (hi : i < n) (hnn : n ≤ 100000) (hn : l.length ≤ 100000) :
    Gives Tryd.prog 72 #[i64 (n), i64 (i), Dg.val (leaf), x1] w0 (Pr.ex (Value.tuple #[Dg.val (up n.toNat i.toNat leaf l.reverse).1, Value.bool (up n.toNat i.toNat leaf l.reverse).2])) := by
  obtain ⟨j, rfl⟩ : ∃ j : Nat, i = j := ⟨i.toNat, by omega⟩
  obtain ⟨k, rfl⟩ : ∃ k : Nat, n = k := ⟨n.toNat, by omega⟩
  exact upR k j leaf l x1 w0 hx1 (by omega) (by omega) (by omega) hn

end Go.Proofs.YtmmghpbncejfiaaDoor
