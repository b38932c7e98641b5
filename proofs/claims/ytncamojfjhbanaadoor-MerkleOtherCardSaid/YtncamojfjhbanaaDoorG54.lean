/- The walks of functions of the program: printed. -/
import Derived.Test.YtncamojfjhbanaaDoorK
import Derived.Test.YtncamojfjhbanaaDoorG3
import Derived.Test.YtncamojfjhbanaaDoorG7
import Derived.Test.YtncamojfjhbanaaDoorG50
import Derived.Test.YtncamojfjhbanaaDoorF0
set_option maxRecDepth 100000
namespace Go.Proofs.YtncamojfjhbanaaDoor
open Go Go.RowKit Sk Sd
theorem fooled__r : ∀ (N : Nat) (l : List Dg) (i : Nat) (leaf : Dg) (p : List Dg) (x1 x2 : Value) (w0 : World) (hx1 : SlT DG 0 0 l x1 w0) (hx2 : SlT DG 0 0 p x2 w0) (hi : i < l.length) (hn : l.length ≤ 100000) (hpn : p.length ≤ 100000) (hN : l.length = N),
    Gives Tryd.prog 22 #[x1, i64 ((i : Nat) : Int), Dg.val (leaf), x2] w0 (Pr.ex (Value.bool (fooled l i leaf p.reverse))) := by
  intro N
  induction N using Nat.strongRecOn with
  | _ N ih =>
    intro l i leaf p x1 x2 w0 hx1 hx2 hi hn hpn hN
    refine enter (N := 132) Tryd.func22 rfl rfl ?_
    intro a0 hN_0 hD_0 hA
    have s0_0 : get a0 0 = x1 := hA 0 _ rfl
    have s1_0 : get a0 1 = i64 ((i : Nat) : Int) := hA 1 _ rfl
    have s2_0 : get a0 2 = Dg.val (leaf) := hA 2 _ rfl
    have s3_0 : get a0 3 = x2 := hA 3 _ rfl
    clear hA
    have hE_0 : Ext w0 w0 := Ext.refl w0
    have hsx1_0 := hx1.close
    have hsx2_0 := hx2.close
    refine wp_seq ?_
    refine region_lex [6] [(6, Pr.box' w0.heap.size 24 [w32 (leaf).a, w32 (leaf).b, w32 (leaf).c, w32 (leaf).d]), (8, Pr.ex (Value.bool (false)))] 2 hN_0 hD_0 (by kernel_rfl) (by kernel_rfl) ?_ ?_
    · refine Asks.cons ?_ (Asks.cons ?_ (Asks.zero _))
      · refine Ask.fresh rfl rfl ?_
        intro aq wq hNq hO hR hT
        exact does_box (V := Dg.val (leaf)) ((hO 2 rfl).trans s2_0) (fun b w2 he hlo hb => ⟨he, ⟨b, rfl, Nat.le_trans hR.size' hlo, hb⟩, ⟨b, rfl, hlo, hb.lt⟩⟩)
      · refine Ask.plain rfl rfl ?_
        intro aq wq hNq hO hR hT
        exact does_assign (V := Value.bool (false)) rfl ⟨Ext.refl _, rfl⟩
    intro a1 wd1 hN_1 hD_1 hO hR hA hU
    obtain ⟨t6, _, _⟩ := hA
    have hE_1 := hE_0.trans hR
    have s0_1 := (hO 0 rfl).trans s0_0
    have s1_1 := (hO 1 rfl).trans s1_0
    have s3_1 := (hO 3 rfl).trans s3_0
    have hsx1_1 := hsx1_0.ext' hR
    have hsx2_1 := hsx2_0.ext' hR
    obtain ⟨b6, s6_1, lo_b6, hbb6_1⟩ := t6
    have nb_x1_b6 := SlT.old hsx1_0 lo_b6
    have nb_x2_b6 := SlT.old hsx2_0 lo_b6
    have fr_b6 : w0.heap.size ≤ b6 := Nat.le_trans hE_0.size' lo_b6
    clear hE_0 hN_0 hD_0 s0_0 s1_0 s2_0 s3_0 hsx1_0 hsx2_0
    refine tail_nil ?_
    refine wp_seq ?_
    refine wp_seq ?_
    refine region_lex [] [(19, Pr.ex (x1)), (20, Pr.ex (i64 ((l.length : Nat) : Int))), (21, Pr.ex (Value.bool (decide (((l.length : Nat) : Int) < ((2 : Nat) : Int))))), (22, Pr.ex (Value.bool (decide (((l.length : Nat) : Int) < ((2 : Nat) : Int))))), (23, Pr.ifb (!(decide (((l.length : Nat) : Int) < ((2 : Nat) : Int)))) (Pr.ex (x2))), (24, Pr.ifb (!(decide (((l.length : Nat) : Int) < ((2 : Nat) : Int)))) (Pr.ex (i64 ((p.length : Nat) : Int)))), (25, Pr.ifb (!(decide (((l.length : Nat) : Int) < ((2 : Nat) : Int)))) (Pr.ex (Value.bool (decide (((p.length : Nat) : Int) = ((0 : Nat) : Int)))))), (26, Pr.ex (Value.bool ((decide (((l.length : Nat) : Int) < ((2 : Nat) : Int))) || (decide (((p.length : Nat) : Int) = ((0 : Nat) : Int))))))] 8 hN_1 hD_1 (by kernel_rfl) (by kernel_rfl) ?_ ?_
    · refine Asks.cons ?_ (Asks.cons ?_ (Asks.cons ?_ (Asks.cons ?_ (Asks.cons ?_ (Asks.cons ?_ (Asks.cons ?_ (Asks.cons ?_ (Asks.zero _))))))))
      · refine Ask.plain rfl rfl ?_
        intro aq wq hNq hO hR hT
        exact does_move (V := x1) ((hO 0 rfl).trans s0_1) ⟨Ext.refl _, rfl⟩
      · refine Ask.plain rfl rfl ?_
        intro aq wq hNq hO hR hT
        exact does_len (T := DG) (xs := l) sli_27 (SlT.at (hT 19 rfl rfl) (hsx1_1.ext' hR)) ⟨Ext.refl _, rfl⟩
      · refine Ask.plain rfl rfl ?_
        intro aq wq hNq hO hR hT
        exact does_lss (a := ((l.length : Nat) : Int)) (b := ((2 : Nat) : Int)) (hT 20 rfl rfl) rfl ⟨Ext.refl _, rfl⟩
      · refine Ask.plain rfl rfl ?_
        intro aq wq hNq hO hR hT
        exact does_move (V := Value.bool (decide (((l.length : Nat) : Int) < ((2 : Nat) : Int)))) (hT 21 rfl rfl) ⟨Ext.refl _, rfl⟩
      · refine Ask.guarded (B := decide (((l.length : Nat) : Int) < ((2 : Nat) : Int))) (want := false) (t := 22) rfl rfl rfl rfl (by decide) (fun aq wq hO hR hT => hT 22 rfl rfl) (fun hG aq wq hNq hO hR hT => ?_) (fun hno _ => fun hc => absurd (bn hc) hno)
        replace hG := nb hG
        exact does_move (V := x2) ((hO 3 rfl).trans s3_1) ⟨Ext.refl _, fun _ => rfl⟩
      · refine Ask.guarded (B := decide (((l.length : Nat) : Int) < ((2 : Nat) : Int))) (want := false) (t := 22) rfl rfl rfl rfl (by decide) (fun aq wq hO hR hT => hT 22 rfl rfl) (fun hG aq wq hNq hO hR hT => ?_) (fun hno _ => fun hc => absurd (bn hc) hno)
        replace hG := nb hG
        exact does_len (T := DG) (xs := p) sli_27 (SlT.at (hT 23 rfl rfl hG) (hsx2_1.ext' hR)) ⟨Ext.refl _, fun _ => rfl⟩
      · refine Ask.guarded (B := decide (((l.length : Nat) : Int) < ((2 : Nat) : Int))) (want := false) (t := 22) rfl rfl rfl rfl (by decide) (fun aq wq hO hR hT => hT 22 rfl rfl) (fun hG aq wq hNq hO hR hT => ?_) (fun hno _ => fun hc => absurd (bn hc) hno)
        replace hG := nb hG
        exact does_eql (a := ((p.length : Nat) : Int)) (b := ((0 : Nat) : Int)) (hT 24 rfl rfl hG) rfl ⟨Ext.refl _, fun _ => rfl⟩
      · refine Ask.plain rfl rfl ?_
        intro aq wq hNq hO hR hT
        exact does_or (B := decide (((l.length : Nat) : Int) < ((2 : Nat) : Int))) (X := decide (((p.length : Nat) : Int) = ((0 : Nat) : Int))) (hT 22 rfl rfl) rfl (fun hB => (hT 25 rfl rfl (nb hB))) ⟨Ext.refl _, rfl⟩
    intro a2 wd2 hN_2 hD_2 hO hR hA hU
    obtain ⟨_, _, _, _, _, _, _, t26, _⟩ := hA
    have hE_2 := hE_1.trans hR
    have s0_2 := (hO 0 rfl).trans s0_1
    have s1_2 := (hO 1 rfl).trans s1_1
    have s3_2 := (hO 3 rfl).trans s3_1
    have s6_2 := (hO 6 rfl).trans s6_1
    have hbb6_2 := hbb6_1.ext' hR
    have hsx1_2 := hsx1_1.ext' hR
    have hsx2_2 := hsx2_1.ext' hR
    have s26_2 : get a2 26 = Value.bool ((decide (((l.length : Nat) : Int) < ((2 : Nat) : Int))) || (decide (((p.length : Nat) : Int) = ((0 : Nat) : Int)))) := t26
    clear hE_1 hN_1 hD_1 s0_1 s1_1 s3_1 s6_1 hbb6_1 hsx1_1 hsx2_1
    refine tail_nil ?_
    refine wp_if (B := (decide (((l.length : Nat) : Int) < ((2 : Nat) : Int))) || (decide (((p.length : Nat) : Int) = ((0 : Nat) : Int)))) s26_2 (fun hc0 => ?_) (fun hc0 => ?_)
    · -- T 0
      refine wp_seq ?_
      refine region_lex [] [(8, Pr.ex (Value.bool (false)))] 1 hN_2 hD_2 (by kernel_rfl) (by kernel_rfl) ?_ ?_
      · refine Asks.cons ?_ (Asks.zero _)
        · refine Ask.plain rfl rfl ?_
          intro aq wq hNq hO hR hT
          exact does_assign (V := Value.bool (false)) rfl ⟨Ext.refl _, rfl⟩
      intro a3 wd3 hN_3 hD_3 hO hR hA hU
      obtain ⟨t8, _⟩ := hA
      have hE_3 := hE_2.trans hR
      have hbb6_3 := hbb6_2.ext' hR
      have hsx1_3 := hsx1_2.ext' hR
      have hsx2_3 := hsx2_2.ext' hR
      have s8_3 : get a3 8 = Value.bool (false) := t8
      clear hE_2 hN_2 hD_2 s0_2 s1_2 s3_2 s6_2 s26_2 hbb6_2 hsx1_2 hsx2_2
      refine tail_nil ?_
      refine wp_ret ?_
      refine res_one (V := Value.bool (false)) rfl hD_3 s8_3 ?_
      exact ⟨by show Value.bool _ = Value.bool _; rw [fooled_no hc0], hE_3⟩
    obtain ⟨hl2, hp0⟩ : ((2 : Nat) : Int) ≤ ((l.length : Nat) : Int) ∧ ¬ (((p.length : Nat) : Int) = ((0 : Nat) : Int)) := by simp only [Bool.or_eq_false_iff, decide_eq_false_iff_not] at hc0; exact ⟨by omega, hc0.2⟩
    have h2 : 2 ≤ l.length := by omega
    have hh := half_lt h2
    have hp := half_pos l.length
    obtain ⟨z, hz⟩ := get_of_lt (l := p) (k := p.length - 1) (by omega)
    refine wp_skip ?_
    refine wp_seq ?_
    refine region_lex [] [(27, Pr.ex (x1)), (28, Pr.ex (i64 ((l.length : Nat) : Int))), (29, Pr.ex (i64 ((half l.length : Nat) : Int))), (9, Pr.ex (i64 ((half l.length : Nat) : Int)))] 4 hN_2 hD_2 (by kernel_rfl) (by kernel_rfl) ?_ ?_
    · refine Asks.cons ?_ (Asks.cons ?_ (Asks.cons ?_ (Asks.cons ?_ (Asks.zero _))))
      · refine Ask.plain rfl rfl ?_
        intro aq wq hNq hO hR hT
        exact does_move (V := x1) ((hO 0 rfl).trans s0_2) ⟨Ext.refl _, rfl⟩
      · refine Ask.plain rfl rfl ?_
        intro aq wq hNq hO hR hT
        exact does_len (T := DG) (xs := l) sli_27 (SlT.at (hT 27 rfl rfl) (hsx1_2.ext' hR)) ⟨Ext.refl _, rfl⟩
      · refine Ask.plain rfl rfl ?_
        intro aq wq hNq hO hR hT
        exact does_ret (vs := #[i64 ((l.length : Nat) : Int)]) call_32 (args1 (hT 28 rfl rfl)) rfl ((halfR (l.length) wq (by omega) (by omega)).mono fun v w2 h => ⟨h.2, h.1⟩)
      · refine Ask.plain rfl rfl ?_
        intro aq wq hNq hO hR hT
        exact does_assign (V := i64 ((half l.length : Nat) : Int)) (hT 29 rfl rfl) ⟨Ext.refl _, rfl⟩
    intro a4 wd4 hN_4 hD_4 hO hR hA hU
    obtain ⟨_, _, _, t9, _⟩ := hA
    have hE_4 := hE_2.trans hR
    have s0_4 := (hO 0 rfl).trans s0_2
    have s1_4 := (hO 1 rfl).trans s1_2
    have s3_4 := (hO 3 rfl).trans s3_2
    have s6_4 := (hO 6 rfl).trans s6_2
    have hbb6_4 := hbb6_2.ext' hR
    have hsx1_4 := hsx1_2.ext' hR
    have hsx2_4 := hsx2_2.ext' hR
    have s9_4 : get a4 9 = i64 ((half l.length : Nat) : Int) := t9
    clear hE_2 hN_2 hD_2 s0_2 s1_2 s3_2 s6_2 s26_2 hbb6_2 hsx1_2 hsx2_2
    refine tail_nil ?_
    refine wp_seq ?_
    refine region_lex [10] [(30, Pr.ex (x2)), (31, Pr.ex (x2)), (32, Pr.ex (i64 ((p.length : Nat) : Int))), (33, Pr.ex (i64 ((p.length - 1 : Nat) : Int))), (34, Pr.pt' 0 (w0.heap.size + 1) [w32 (z).a, w32 (z).b, w32 (z).c, w32 (z).d]), (35, Pr.ex (Dg.val (z))), (10, Pr.box' wd4.heap.size 24 [w32 (Dg.zero).a, w32 (Dg.zero).b, w32 (Dg.zero).c, w32 (Dg.zero).d])] 7 hN_4 hD_4 (by kernel_rfl) (by kernel_rfl) ?_ ?_
    · refine Asks.cons ?_ (Asks.cons ?_ (Asks.cons ?_ (Asks.cons ?_ (Asks.cons ?_ (Asks.cons ?_ (Asks.cons ?_ (Asks.zero _)))))))
      · refine Ask.plain rfl rfl ?_
        intro aq wq hNq hO hR hT
        exact does_move (V := x2) ((hO 3 rfl).trans s3_4) ⟨Ext.refl _, rfl⟩
      · refine Ask.plain rfl rfl ?_
        intro aq wq hNq hO hR hT
        exact does_move (V := x2) ((hO 3 rfl).trans s3_4) ⟨Ext.refl _, rfl⟩
      · refine Ask.plain rfl rfl ?_
        intro aq wq hNq hO hR hT
        exact does_len (T := DG) (xs := p) sli_27 (SlT.at (hT 31 rfl rfl) (hsx2_4.ext' hR)) ⟨Ext.refl _, rfl⟩
      · refine Ask.plain rfl rfl ?_
        intro aq wq hNq hO hR hT
        exact does_sub (a := ((p.length : Nat) : Int)) (b := ((1 : Nat) : Int)) (r := ((p.length - 1 : Nat) : Int)) (hT 32 rfl rfl) rfl (by omega) (by omega) (by omega) ⟨Ext.refl _, rfl⟩
      · refine Ask.plain rfl rfl ?_
        intro aq wq hNq hO hR hT
        exact does_indexSl (T := DG) (xs := p) (i := ((p.length - 1 : Nat) : Int)) (X := z) sli_27 rfl (SlT.at (hT 30 rfl rfl) (hsx2_4.ext' hR)) (hT 33 rfl rfl) (by omega) (by simpa using hz) (fun v h => ⟨Ext.refl _, h⟩)
      · refine Ask.plain rfl rfl ?_
        intro aq wq hNq hO hR hT
        exact does_loadP (cs := [w32 (z).a, w32 (z).b, w32 (z).c, w32 (z).d]) (hT 34 rfl rfl) row_24 rfl ⟨Ext.refl _, rfl⟩
      · refine Ask.fresh rfl rfl ?_
        intro aq wq hNq hO hR hT
        exact does_alloc zero_24 (fun b w2 he hlo hb => ⟨he, ⟨b, rfl, Nat.le_trans hR.size' hlo, hb⟩, ⟨b, rfl, hlo, hb.lt⟩⟩)
    intro a5 wd5 hN_5 hD_5 hO hR hA hU
    obtain ⟨_, _, _, _, _, t35, t10, _⟩ := hA
    have hE_5 := hE_4.trans hR
    have s0_5 := (hO 0 rfl).trans s0_4
    have s1_5 := (hO 1 rfl).trans s1_4
    have s3_5 := (hO 3 rfl).trans s3_4
    have s6_5 := (hO 6 rfl).trans s6_4
    have s9_5 := (hO 9 rfl).trans s9_4
    have hbb6_5 := hbb6_4.ext' hR
    have hsx1_5 := hsx1_4.ext' hR
    have hsx2_5 := hsx2_4.ext' hR
    have s35_5 : get a5 35 = Dg.val (z) := t35
    obtain ⟨b10, s10_5, lo_b10, hbb10_5⟩ := t10
    have ne_b6_b10 : b6 ≠ b10 := fun e => Nat.lt_irrefl _ (Nat.lt_of_lt_of_le hbb6_4.lt (e ▸ lo_b10))
    have nb_x1_b10 := SlT.old hsx1_4 lo_b10
    have nb_x2_b10 := SlT.old hsx2_4 lo_b10
    have fr_b10 : w0.heap.size ≤ b10 := Nat.le_trans hE_4.size' lo_b10
    clear hE_4 hN_4 hD_4 s0_4 s1_4 s3_4 s6_4 s9_4 hbb6_4 hsx1_4 hsx2_4
    refine tail_none rfl rfl (does_storeD (o := 0) (n := 4) (cs' := [w32 (z).a, w32 (z).b, w32 (z).c, w32 (z).d]) (V := Dg.val (z)) s10_5 s35_5 hbb10_5 (Nat.le_of_ble_eq_true rfl) rfl siz_24 rfl rfl (fun wd6 hX hz hbb10_6 => ?_))
    have hE_6 := hE_5.since hX (fun k e => e ▸ fr_b10)
    have hbb6_6 := hbb6_5.ext hX ne_b6_b10
    have hsx1_6 := SlT.over hsx1_5 hX nb_x1_b10
    have hsx2_6 := SlT.over hsx2_5 hX nb_x2_b10
    clear hX hz hE_5 hbb6_5 hbb10_5 hsx1_5 hsx2_5
    refine tail_nil ?_
    refine wp_seq ?_
    refine region_lex [] [(36, Pr.ex (x2)), (37, Pr.ex (x2)), (38, Pr.ex (i64 ((p.length : Nat) : Int))), (39, Pr.ex (i64 ((p.length - 1 : Nat) : Int))), (40, Pr.sl' DG 0 (w0.heap.size + 1) (p.take (p.length - 1))), (11, Pr.sl' DG 0 (w0.heap.size + 1) (p.take (p.length - 1)))] 6 hN_5 hD_5 (by kernel_rfl) (by kernel_rfl) ?_ ?_
    · refine Asks.cons ?_ (Asks.cons ?_ (Asks.cons ?_ (Asks.cons ?_ (Asks.cons ?_ (Asks.cons ?_ (Asks.zero _))))))
      · refine Ask.plain rfl rfl ?_
        intro aq wq hNq hO hR hT
        exact does_move (V := x2) ((hO 3 rfl).trans s3_5) ⟨Ext.refl _, rfl⟩
      · refine Ask.plain rfl rfl ?_
        intro aq wq hNq hO hR hT
        exact does_move (V := x2) ((hO 3 rfl).trans s3_5) ⟨Ext.refl _, rfl⟩
      · refine Ask.plain rfl rfl ?_
        intro aq wq hNq hO hR hT
        exact does_len (T := DG) (xs := p) sli_27 (SlT.at (hT 37 rfl rfl) (hsx2_6.ext' hR)) ⟨Ext.refl _, rfl⟩
      · refine Ask.plain rfl rfl ?_
        intro aq wq hNq hO hR hT
        exact does_sub (a := ((p.length : Nat) : Int)) (b := ((1 : Nat) : Int)) (r := ((p.length - 1 : Nat) : Int)) (hT 38 rfl rfl) rfl (by omega) (by omega) (by omega) ⟨Ext.refl _, rfl⟩
      · refine Ask.plain rfl rfl ?_
        intro aq wq hNq hO hR hT
        exact does_sliceHi (T := DG) (xs := p) (k := ((p.length - 1 : Nat) : Int)) sli_27 rfl (SlT.at (hT 36 rfl rfl) (hsx2_6.ext' hR)) (hT 39 rfl rfl) (by omega) (by omega) (fun v h => ⟨Ext.refl _, h⟩)
      · refine Ask.plain rfl rfl ?_
        intro aq wq hNq hO hR hT
        exact does_assign rfl ⟨Ext.refl _, (hT 40 rfl rfl)⟩
    intro a7 wd7 hN_7 hD_7 hO hR hA hU
    obtain ⟨_, _, _, _, _, t11, _⟩ := hA
    have hE_7 := hE_6.trans hR
    have s0_7 := (hO 0 rfl).trans s0_5
    have s1_7 := (hO 1 rfl).trans s1_5
    have s6_7 := (hO 6 rfl).trans s6_5
    have s9_7 := (hO 9 rfl).trans s9_5
    have s10_7 := (hO 10 rfl).trans s10_5
    have hbb6_7 := hbb6_6.ext' hR
    have hbb10_7 := hbb10_6.ext' hR
    have hsx1_7 := hsx1_6.ext' hR
    have hsx2_7 := hsx2_6.ext' hR
    obtain ⟨x11, s11_7⟩ : ∃ x, get a7 11 = x := ⟨_, rfl⟩
    replace t11 : SlT DG 0 (w0.heap.size + 1) (p.take (p.length - 1)) x11 wd7 := by rw [← s11_7]; exact t11
    have hsx11_7 := t11
    clear hE_6 hN_5 hD_5 s0_5 s1_5 s3_5 s6_5 s9_5 s10_5 s35_5 hbb6_6 hbb10_6 hsx1_6 hsx2_6
    refine tail_nil ?_
    refine wp_seq ?_
    refine region_any [12] [(41, Pr.ex (x1)), (42, Pr.ex (i64 ((half l.length : Nat) : Int))), (43, Pr.sl' DG 0 (w0.heap.size + 1) (l.take (half l.length))), (44, Pr.ex (Dg.val (root (l.take (half l.length))))), (45, Pr.ex (x1)), (46, Pr.ex (i64 ((half l.length : Nat) : Int))), (47, Pr.sl' DG 0 (w0.heap.size + 1) (l.drop (half l.length))), (48, Pr.ex (Dg.val (root (l.drop (half l.length))))), (49, Pr.ex (Value.agg #[w32 (root (l.take (half l.length))).a, w32 (root (l.take (half l.length))).b, w32 (root (l.take (half l.length))).c, w32 (root (l.take (half l.length))).d, w32 (root (l.drop (half l.length))).a, w32 (root (l.drop (half l.length))).b, w32 (root (l.drop (half l.length))).c, w32 (root (l.drop (half l.length))).d])), (12, Pr.box' wd7.heap.size 32 [w32 (Dg.zero).a, w32 (Dg.zero).b, w32 (Dg.zero).c, w32 (Dg.zero).d, w32 (Dg.zero).a, w32 (Dg.zero).b, w32 (Dg.zero).c, w32 (Dg.zero).d])] 10 mixed hN_7 hD_7 (by kernel_rfl) (by kernel_rfl) (by kernel_rfl) ?_ ?_
    · refine Asks.cons ?_ (Asks.cons ?_ (Asks.cons ?_ (Asks.cons ?_ (Asks.cons ?_ (Asks.cons ?_ (Asks.cons ?_ (Asks.cons ?_ (Asks.cons ?_ (Asks.cons ?_ (Asks.zero _))))))))))
      · refine Ask.plain rfl rfl ?_
        intro aq wq hNq hO hR hT
        replace hR := (Ext.drew _).trans hR
        exact does_move (V := x1) ((hO 0 rfl).trans s0_7) ⟨Ext.refl _, rfl⟩
      · refine Ask.plain rfl rfl ?_
        intro aq wq hNq hO hR hT
        replace hR := (Ext.drew _).trans hR
        exact does_move (V := i64 ((half l.length : Nat) : Int)) ((hO 9 rfl).trans s9_7) ⟨Ext.refl _, rfl⟩
      · refine Ask.plain rfl rfl ?_
        intro aq wq hNq hO hR hT
        replace hR := (Ext.drew _).trans hR
        exact does_sliceHi (T := DG) (xs := l) (k := ((half l.length : Nat) : Int)) sli_27 rfl (SlT.at (hT 41 rfl rfl) (hsx1_7.ext' hR)) (hT 42 rfl rfl) (by omega) (by omega) (fun v h => ⟨Ext.refl _, h⟩)
      · refine Ask.plain rfl rfl ?_
        intro aq wq hNq hO hR hT
        replace hR := (Ext.drew _).trans hR
        exact does_ret (vs := #[get aq 43]) call_19 (args1 rfl) rfl ((rootR (l.take (half l.length)) (get aq 43) wq ((hT 43 rfl rfl).wide (Nat.zero_le _) (.inl rfl)) (by first | omega | (simp only [List.length_take]; omega) | (simp only [List.length_drop]; omega))).mono fun v w2 h => ⟨h.2, h.1⟩)
      · refine Ask.plain rfl rfl ?_
        intro aq wq hNq hO hR hT
        replace hR := (Ext.drew _).trans hR
        exact does_move (V := x1) ((hO 0 rfl).trans s0_7) ⟨Ext.refl _, rfl⟩
      · refine Ask.plain rfl rfl ?_
        intro aq wq hNq hO hR hT
        replace hR := (Ext.drew _).trans hR
        exact does_move (V := i64 ((half l.length : Nat) : Int)) ((hO 9 rfl).trans s9_7) ⟨Ext.refl _, rfl⟩
      · refine Ask.plain rfl rfl ?_
        intro aq wq hNq hO hR hT
        replace hR := (Ext.drew _).trans hR
        exact does_sliceLo (T := DG) (xs := l) (k := ((half l.length : Nat) : Int)) sli_27 rfl (SlT.at (hT 45 rfl rfl) (hsx1_7.ext' hR)) (hT 46 rfl rfl) (by omega) (by omega) (fun v h => ⟨Ext.refl _, h⟩)
      · refine Ask.plain rfl rfl ?_
        intro aq wq hNq hO hR hT
        replace hR := (Ext.drew _).trans hR
        exact does_ret (vs := #[get aq 47]) call_19 (args1 rfl) rfl ((rootR (l.drop (half l.length)) (get aq 47) wq ((hT 47 rfl rfl).wide (Nat.zero_le _) (.inl rfl)) (by first | omega | (simp only [List.length_take]; omega) | (simp only [List.length_drop]; omega))).mono fun v w2 h => ⟨h.2, h.1⟩)
      · refine Ask.plain rfl rfl ?_
        intro aq wq hNq hO hR hT
        replace hR := (Ext.drew _).trans hR
        exact does_build (vs := #[(0, Dg.val (root (l.take (half l.length)))), (1, Dg.val (root (l.drop (half l.length))))]) (V := Value.agg #[w32 (root (l.take (half l.length))).a, w32 (root (l.take (half l.length))).b, w32 (root (l.take (half l.length))).c, w32 (root (l.take (half l.length))).d, w32 (root (l.drop (half l.length))).a, w32 (root (l.drop (half l.length))).b, w32 (root (l.drop (half l.length))).c, w32 (root (l.drop (half l.length))).d]) (parts2 (hT 44 rfl rfl) (hT 48 rfl rfl)) (by kernel_rfl) ⟨Ext.refl _, rfl⟩
      · refine Ask.fresh rfl rfl ?_
        intro aq wq hNq hO hR hT
        replace hR := (Ext.drew _).trans hR
        exact does_alloc zero_32 (fun b w2 he hlo hb => ⟨he, ⟨b, rfl, Nat.le_trans hR.size' hlo, hb⟩, ⟨b, rfl, hlo, hb.lt⟩⟩)
    intro a8 wd8 hN_8 hD_8 hO hR hA hU
    obtain ⟨_, _, _, _, _, _, _, _, t49, t12, _⟩ := hA
    have hE_8 := hE_7.trans hR
    have s0_8 := (hO 0 rfl).trans s0_7
    have s1_8 := (hO 1 rfl).trans s1_7
    have s6_8 := (hO 6 rfl).trans s6_7
    have s9_8 := (hO 9 rfl).trans s9_7
    have s10_8 := (hO 10 rfl).trans s10_7
    have s11_8 := (hO 11 rfl).trans s11_7
    have hbb6_8 := hbb6_7.ext' hR
    have hbb10_8 := hbb10_7.ext' hR
    have hsx1_8 := hsx1_7.ext' hR
    have hsx2_8 := hsx2_7.ext' hR
    have hsx11_8 := hsx11_7.ext' hR
    have s49_8 : get a8 49 = Value.agg #[w32 (root (l.take (half l.length))).a, w32 (root (l.take (half l.length))).b, w32 (root (l.take (half l.length))).c, w32 (root (l.take (half l.length))).d, w32 (root (l.drop (half l.length))).a, w32 (root (l.drop (half l.length))).b, w32 (root (l.drop (half l.length))).c, w32 (root (l.drop (half l.length))).d] := t49
    obtain ⟨b12, s12_8, lo_b12, hbb12_8⟩ := t12
    have ne_b6_b12 : b6 ≠ b12 := fun e => Nat.lt_irrefl _ (Nat.lt_of_lt_of_le hbb6_7.lt (e ▸ lo_b12))
    have ne_b10_b12 : b10 ≠ b12 := fun e => Nat.lt_irrefl _ (Nat.lt_of_lt_of_le hbb10_7.lt (e ▸ lo_b12))
    have nb_x1_b12 := SlT.old hsx1_7 lo_b12
    have nb_x2_b12 := SlT.old hsx2_7 lo_b12
    have nb_x11_b12 := SlT.old hsx11_7 lo_b12
    have fr_b12 : w0.heap.size ≤ b12 := Nat.le_trans hE_7.size' lo_b12
    clear hE_7 hN_7 hD_7 s0_7 s1_7 s6_7 s9_7 s10_7 s11_7 hbb6_7 hbb10_7 hsx1_7 hsx2_7 hsx11_7
    refine tail_none rfl rfl (does_storeD (o := 0) (n := 8) (cs' := [w32 (root (l.take (half l.length))).a, w32 (root (l.take (half l.length))).b, w32 (root (l.take (half l.length))).c, w32 (root (l.take (half l.length))).d, w32 (root (l.drop (half l.length))).a, w32 (root (l.drop (half l.length))).b, w32 (root (l.drop (half l.length))).c, w32 (root (l.drop (half l.length))).d]) (V := Value.agg #[w32 (root (l.take (half l.length))).a, w32 (root (l.take (half l.length))).b, w32 (root (l.take (half l.length))).c, w32 (root (l.take (half l.length))).d, w32 (root (l.drop (half l.length))).a, w32 (root (l.drop (half l.length))).b, w32 (root (l.drop (half l.length))).c, w32 (root (l.drop (half l.length))).d]) s12_8 s49_8 hbb12_8 (Nat.le_of_ble_eq_true rfl) rfl siz_32 rfl rfl (fun wd9 hX hz hbb12_9 => ?_))
    have hE_9 := hE_8.since hX (fun k e => e ▸ fr_b12)
    have hbb6_9 := hbb6_8.ext hX ne_b6_b12
    have hbb10_9 := hbb10_8.ext hX ne_b10_b12
    have hsx1_9 := SlT.over hsx1_8 hX nb_x1_b12
    have hsx2_9 := SlT.over hsx2_8 hX nb_x2_b12
    have hsx11_9 := SlT.over hsx11_8 hX nb_x11_b12
    clear hX hz hE_8 hbb6_8 hbb10_8 hbb12_8 hsx1_8 hsx2_8 hsx11_8
    refine tail_nil ?_
    refine wp_seq ?_
    refine wp_seq ?_
    refine region_lex [] [(50, Pr.ex (i64 ((i : Nat) : Int))), (51, Pr.ex (i64 ((half l.length : Nat) : Int))), (52, Pr.ex (Value.bool (decide (((i : Nat) : Int) < ((half l.length : Nat) : Int)))))] 3 hN_8 hD_8 (by kernel_rfl) (by kernel_rfl) ?_ ?_
    · refine Asks.cons ?_ (Asks.cons ?_ (Asks.cons ?_ (Asks.zero _)))
      · refine Ask.plain rfl rfl ?_
        intro aq wq hNq hO hR hT
        exact does_move (V := i64 ((i : Nat) : Int)) ((hO 1 rfl).trans s1_8) ⟨Ext.refl _, rfl⟩
      · refine Ask.plain rfl rfl ?_
        intro aq wq hNq hO hR hT
        exact does_move (V := i64 ((half l.length : Nat) : Int)) ((hO 9 rfl).trans s9_8) ⟨Ext.refl _, rfl⟩
      · refine Ask.plain rfl rfl ?_
        intro aq wq hNq hO hR hT
        exact does_lss (a := ((i : Nat) : Int)) (b := ((half l.length : Nat) : Int)) (hT 50 rfl rfl) (hT 51 rfl rfl) ⟨Ext.refl _, rfl⟩
    intro a10 wd10 hN_10 hD_10 hO hR hA hU
    obtain ⟨_, _, t52, _⟩ := hA
    have hE_10 := hE_9.trans hR
    have s0_10 := (hO 0 rfl).trans s0_8
    have s1_10 := (hO 1 rfl).trans s1_8
    have s6_10 := (hO 6 rfl).trans s6_8
    have s9_10 := (hO 9 rfl).trans s9_8
    have s10_10 := (hO 10 rfl).trans s10_8
    have s11_10 := (hO 11 rfl).trans s11_8
    have s12_10 := (hO 12 rfl).trans s12_8
    have hbb6_10 := hbb6_9.ext' hR
    have hbb10_10 := hbb10_9.ext' hR
    have hbb12_10 := hbb12_9.ext' hR
    have hsx1_10 := hsx1_9.ext' hR
    have hsx2_10 := hsx2_9.ext' hR
    have hsx11_10 := hsx11_9.ext' hR
    have s52_10 : get a10 52 = Value.bool (decide (((i : Nat) : Int) < ((half l.length : Nat) : Int))) := t52
    clear hE_9 hN_8 hD_8 s0_8 s1_8 s6_8 s9_8 s10_8 s11_8 s12_8 s49_8 hbb6_9 hbb10_9 hbb12_9 hsx1_9 hsx2_9 hsx11_9
    refine tail_nil ?_
    refine wp_if (B := decide (((i : Nat) : Int) < ((half l.length : Nat) : Int))) s52_10 (fun hc1 => ?_) (fun hc1 => ?_)
    · -- T 1
      have hc1 := of_decide_eq_true hc1
      have hlt : i < half l.length := by omega
      refine wp_seq ?_
      refine region_lex [13] [(54, Pr.ex (i64 ((half l.length : Nat) : Int))), (55, Pr.ex (i64 ((i : Nat) : Int))), (56, Pr.ex (Dg.val (leaf))), (57, Pr.ex (x11)), (58, Pr.ex (Value.tuple #[Dg.val ((up (half l.length) i leaf (p.take (p.length - 1)).reverse).1), Value.bool ((up (half l.length) i leaf (p.take (p.length - 1)).reverse).2)])), (53, Pr.ex (Value.tuple #[Dg.val ((up (half l.length) i leaf (p.take (p.length - 1)).reverse).1), Value.bool ((up (half l.length) i leaf (p.take (p.length - 1)).reverse).2)])), (59, Pr.ex (Dg.val ((up (half l.length) i leaf (p.take (p.length - 1)).reverse).1))), (60, Pr.ex (Value.bool ((up (half l.length) i leaf (p.take (p.length - 1)).reverse).2))), (13, Pr.box' wd10.heap.size 24 [w32 (Dg.zero).a, w32 (Dg.zero).b, w32 (Dg.zero).c, w32 (Dg.zero).d])] 9 hN_10 hD_10 (by kernel_rfl) (by kernel_rfl) ?_ ?_
      · refine Asks.cons ?_ (Asks.cons ?_ (Asks.cons ?_ (Asks.cons ?_ (Asks.cons ?_ (Asks.cons ?_ (Asks.cons ?_ (Asks.cons ?_ (Asks.cons ?_ (Asks.zero _)))))))))
        · refine Ask.plain rfl rfl ?_
          intro aq wq hNq hO hR hT
          exact does_move (V := i64 ((half l.length : Nat) : Int)) ((hO 9 rfl).trans s9_10) ⟨Ext.refl _, rfl⟩
        · refine Ask.plain rfl rfl ?_
          intro aq wq hNq hO hR hT
          exact does_move (V := i64 ((i : Nat) : Int)) ((hO 1 rfl).trans s1_10) ⟨Ext.refl _, rfl⟩
        · refine Ask.plain rfl rfl ?_
          intro aq wq hNq hO hR hT
          exact does_loadD (o := 0) (n := 4) (mid := [w32 (leaf).a, w32 (leaf).b, w32 (leaf).c, w32 (leaf).d]) ((hO 6 rfl).trans s6_10) (hbb6_10.ext' hR) rfl rfl (Nat.le_of_ble_eq_true rfl) row_24 rfl ⟨Ext.refl _, rfl⟩
        · refine Ask.plain rfl rfl ?_
          intro aq wq hNq hO hR hT
          exact does_move (V := x11) ((hO 11 rfl).trans s11_10) ⟨Ext.refl _, rfl⟩
        · refine Ask.plain rfl rfl ?_
          intro aq wq hNq hO hR hT
          exact does_ret (vs := #[i64 ((half l.length : Nat) : Int), i64 ((i : Nat) : Int), Dg.val (leaf), x11]) call_40 (args4 (hT 54 rfl rfl) (hT 55 rfl rfl) (hT 56 rfl rfl) (hT 57 rfl rfl)) rfl ((upR (half l.length) i leaf (p.take (p.length - 1)) (x11) wq ((hsx11_10.ext' hR).wide (Nat.zero_le _) (.inl rfl)) (by first | omega | (simp only [List.length_take]; omega) | (simp only [List.length_drop]; omega)) (by first | omega | (simp only [List.length_take]; omega) | (simp only [List.length_drop]; omega)) (by first | omega | (simp only [List.length_take]; omega) | (simp only [List.length_drop]; omega)) (by first | omega | (simp only [List.length_take]; omega) | (simp only [List.length_drop]; omega))).mono fun v w2 h => ⟨h.2, h.1⟩)
        · refine Ask.plain rfl rfl ?_
          intro aq wq hNq hO hR hT
          exact does_move (V := Value.tuple #[Dg.val ((up (half l.length) i leaf (p.take (p.length - 1)).reverse).1), Value.bool ((up (half l.length) i leaf (p.take (p.length - 1)).reverse).2)]) (hT 58 rfl rfl) ⟨Ext.refl _, rfl⟩
        · refine Ask.plain rfl rfl ?_
          intro aq wq hNq hO hR hT
          exact does_extract (V := Dg.val ((up (half l.length) i leaf (p.take (p.length - 1)).reverse).1)) (hT 53 rfl rfl) rfl ⟨Ext.refl _, rfl⟩
        · refine Ask.plain rfl rfl ?_
          intro aq wq hNq hO hR hT
          exact does_extract (V := Value.bool ((up (half l.length) i leaf (p.take (p.length - 1)).reverse).2)) (hT 53 rfl rfl) rfl ⟨Ext.refl _, rfl⟩
        · refine Ask.fresh rfl rfl ?_
          intro aq wq hNq hO hR hT
          exact does_alloc zero_24 (fun b w2 he hlo hb => ⟨he, ⟨b, rfl, Nat.le_trans hR.size' hlo, hb⟩, ⟨b, rfl, hlo, hb.lt⟩⟩)
      intro a11 wd11 hN_11 hD_11 hO hR hA hU
      obtain ⟨_, _, _, _, _, _, t59, t60, t13, _⟩ := hA
      have hE_11 := hE_10.trans hR
      have s0_11 := (hO 0 rfl).trans s0_10
      have s1_11 := (hO 1 rfl).trans s1_10
      have s6_11 := (hO 6 rfl).trans s6_10
      have s9_11 := (hO 9 rfl).trans s9_10
      have s10_11 := (hO 10 rfl).trans s10_10
      have s11_11 := (hO 11 rfl).trans s11_10
      have s12_11 := (hO 12 rfl).trans s12_10
      have hbb6_11 := hbb6_10.ext' hR
      have hbb10_11 := hbb10_10.ext' hR
      have hbb12_11 := hbb12_10.ext' hR
      have hsx1_11 := hsx1_10.ext' hR
      have hsx2_11 := hsx2_10.ext' hR
      have hsx11_11 := hsx11_10.ext' hR
      have s59_11 : get a11 59 = Dg.val ((up (half l.length) i leaf (p.take (p.length - 1)).reverse).1) := t59
      have s60_11 : get a11 60 = Value.bool ((up (half l.length) i leaf (p.take (p.length - 1)).reverse).2) := t60
      obtain ⟨b13, s13_11, lo_b13, hbb13_11⟩ := t13
      have ne_b6_b13 : b6 ≠ b13 := fun e => Nat.lt_irrefl _ (Nat.lt_of_lt_of_le hbb6_10.lt (e ▸ lo_b13))
      have ne_b10_b13 : b10 ≠ b13 := fun e => Nat.lt_irrefl _ (Nat.lt_of_lt_of_le hbb10_10.lt (e ▸ lo_b13))
      have ne_b12_b13 : b12 ≠ b13 := fun e => Nat.lt_irrefl _ (Nat.lt_of_lt_of_le hbb12_10.lt (e ▸ lo_b13))
      have nb_x1_b13 := SlT.old hsx1_10 lo_b13
      have nb_x2_b13 := SlT.old hsx2_10 lo_b13
      have nb_x11_b13 := SlT.old hsx11_10 lo_b13
      have fr_b13 : w0.heap.size ≤ b13 := Nat.le_trans hE_10.size' lo_b13
      clear hE_10 hN_10 hD_10 s0_10 s1_10 s6_10 s9_10 s10_10 s11_10 s12_10 s52_10 hbb6_10 hbb10_10 hbb12_10 hsx1_10 hsx2_10 hsx11_10
      refine tail_none rfl rfl (does_storeD (o := 0) (n := 4) (cs' := [w32 ((up (half l.length) i leaf (p.take (p.length - 1)).reverse).1).a, w32 ((up (half l.length) i leaf (p.take (p.length - 1)).reverse).1).b, w32 ((up (half l.length) i leaf (p.take (p.length - 1)).reverse).1).c, w32 ((up (half l.length) i leaf (p.take (p.length - 1)).reverse).1).d]) (V := Dg.val ((up (half l.length) i leaf (p.take (p.length - 1)).reverse).1)) s13_11 s59_11 hbb13_11 (Nat.le_of_ble_eq_true rfl) rfl siz_24 rfl rfl (fun wd12 hX hz hbb13_12 => ?_))
      have hE_12 := hE_11.since hX (fun k e => e ▸ fr_b13)
      have hbb6_12 := hbb6_11.ext hX ne_b6_b13
      have hbb10_12 := hbb10_11.ext hX ne_b10_b13
      have hbb12_12 := hbb12_11.ext hX ne_b12_b13
      have hsx1_12 := SlT.over hsx1_11 hX nb_x1_b13
      have hsx2_12 := SlT.over hsx2_11 hX nb_x2_b13
      have hsx11_12 := SlT.over hsx11_11 hX nb_x11_b13
      clear hX hz hE_11 hbb6_11 hbb10_11 hbb12_11 hbb13_11 hsx1_11 hsx2_11 hsx11_11
      refine tail_put rfl rfl hN_11 hD_11 (by decide) (does_assign (V := Value.bool ((up (half l.length) i leaf (p.take (p.length - 1)).reverse).2)) s60_11 (fun a13 hN_13 hD_13 hv hO => ?_))
      have s14_13 := hv
      have s0_13 := (hO 0 rfl).trans s0_11
      have s1_13 := (hO 1 rfl).trans s1_11
      have s6_13 := (hO 6 rfl).trans s6_11
      have s9_13 := (hO 9 rfl).trans s9_11
      have s10_13 := (hO 10 rfl).trans s10_11
      have s11_13 := (hO 11 rfl).trans s11_11
      have s12_13 := (hO 12 rfl).trans s12_11
      have s13_13 := (hO 13 rfl).trans s13_11
      clear hO hv hN_11 hD_11 s0_11 s1_11 s6_11 s9_11 s10_11 s11_11 s12_11 s13_11 s59_11 s60_11
      refine tail_nil ?_
      refine wp_seq ?_
      refine region_lex [15] [(61, Pr.ex (Dg.val ((up (half l.length) i leaf (p.take (p.length - 1)).reverse).1))), (62, Pr.ex (Dg.val (z))), (63, Pr.ex (Value.agg #[w32 ((up (half l.length) i leaf (p.take (p.length - 1)).reverse).1).a, w32 ((up (half l.length) i leaf (p.take (p.length - 1)).reverse).1).b, w32 ((up (half l.length) i leaf (p.take (p.length - 1)).reverse).1).c, w32 ((up (half l.length) i leaf (p.take (p.length - 1)).reverse).1).d, w32 (z).a, w32 (z).b, w32 (z).c, w32 (z).d])), (15, Pr.box' wd12.heap.size 32 [w32 (Dg.zero).a, w32 (Dg.zero).b, w32 (Dg.zero).c, w32 (Dg.zero).d, w32 (Dg.zero).a, w32 (Dg.zero).b, w32 (Dg.zero).c, w32 (Dg.zero).d])] 4 hN_13 hD_13 (by kernel_rfl) (by kernel_rfl) ?_ ?_
      · refine Asks.cons ?_ (Asks.cons ?_ (Asks.cons ?_ (Asks.cons ?_ (Asks.zero _))))
        · refine Ask.plain rfl rfl ?_
          intro aq wq hNq hO hR hT
          exact does_loadD (o := 0) (n := 4) (mid := [w32 ((up (half l.length) i leaf (p.take (p.length - 1)).reverse).1).a, w32 ((up (half l.length) i leaf (p.take (p.length - 1)).reverse).1).b, w32 ((up (half l.length) i leaf (p.take (p.length - 1)).reverse).1).c, w32 ((up (half l.length) i leaf (p.take (p.length - 1)).reverse).1).d]) ((hO 13 rfl).trans s13_13) (hbb13_12.ext' hR) rfl rfl (Nat.le_of_ble_eq_true rfl) row_24 rfl ⟨Ext.refl _, rfl⟩
        · refine Ask.plain rfl rfl ?_
          intro aq wq hNq hO hR hT
          exact does_loadD (o := 0) (n := 4) (mid := [w32 (z).a, w32 (z).b, w32 (z).c, w32 (z).d]) ((hO 10 rfl).trans s10_13) (hbb10_12.ext' hR) rfl rfl (Nat.le_of_ble_eq_true rfl) row_24 rfl ⟨Ext.refl _, rfl⟩
        · refine Ask.plain rfl rfl ?_
          intro aq wq hNq hO hR hT
          exact does_build (vs := #[(0, Dg.val ((up (half l.length) i leaf (p.take (p.length - 1)).reverse).1)), (1, Dg.val (z))]) (V := Value.agg #[w32 ((up (half l.length) i leaf (p.take (p.length - 1)).reverse).1).a, w32 ((up (half l.length) i leaf (p.take (p.length - 1)).reverse).1).b, w32 ((up (half l.length) i leaf (p.take (p.length - 1)).reverse).1).c, w32 ((up (half l.length) i leaf (p.take (p.length - 1)).reverse).1).d, w32 (z).a, w32 (z).b, w32 (z).c, w32 (z).d]) (parts2 (hT 61 rfl rfl) (hT 62 rfl rfl)) (by kernel_rfl) ⟨Ext.refl _, rfl⟩
        · refine Ask.fresh rfl rfl ?_
          intro aq wq hNq hO hR hT
          exact does_alloc zero_32 (fun b w2 he hlo hb => ⟨he, ⟨b, rfl, Nat.le_trans hR.size' hlo, hb⟩, ⟨b, rfl, hlo, hb.lt⟩⟩)
      intro a14 wd14 hN_14 hD_14 hO hR hA hU
      obtain ⟨_, _, t63, t15, _⟩ := hA
      have hE_14 := hE_12.trans hR
      have s0_14 := (hO 0 rfl).trans s0_13
      have s1_14 := (hO 1 rfl).trans s1_13
      have s6_14 := (hO 6 rfl).trans s6_13
      have s9_14 := (hO 9 rfl).trans s9_13
      have s11_14 := (hO 11 rfl).trans s11_13
      have s12_14 := (hO 12 rfl).trans s12_13
      have hbb6_14 := hbb6_12.ext' hR
      have hbb10_14 := hbb10_12.ext' hR
      have hbb12_14 := hbb12_12.ext' hR
      have hbb13_14 := hbb13_12.ext' hR
      have hsx1_14 := hsx1_12.ext' hR
      have hsx2_14 := hsx2_12.ext' hR
      have hsx11_14 := hsx11_12.ext' hR
      have s63_14 : get a14 63 = Value.agg #[w32 ((up (half l.length) i leaf (p.take (p.length - 1)).reverse).1).a, w32 ((up (half l.length) i leaf (p.take (p.length - 1)).reverse).1).b, w32 ((up (half l.length) i leaf (p.take (p.length - 1)).reverse).1).c, w32 ((up (half l.length) i leaf (p.take (p.length - 1)).reverse).1).d, w32 (z).a, w32 (z).b, w32 (z).c, w32 (z).d] := t63
      obtain ⟨b15, s15_14, lo_b15, hbb15_14⟩ := t15
      have ne_b6_b15 : b6 ≠ b15 := fun e => Nat.lt_irrefl _ (Nat.lt_of_lt_of_le hbb6_12.lt (e ▸ lo_b15))
      have ne_b10_b15 : b10 ≠ b15 := fun e => Nat.lt_irrefl _ (Nat.lt_of_lt_of_le hbb10_12.lt (e ▸ lo_b15))
      have ne_b12_b15 : b12 ≠ b15 := fun e => Nat.lt_irrefl _ (Nat.lt_of_lt_of_le hbb12_12.lt (e ▸ lo_b15))
      have ne_b13_b15 : b13 ≠ b15 := fun e => Nat.lt_irrefl _ (Nat.lt_of_lt_of_le hbb13_12.lt (e ▸ lo_b15))
      have nb_x1_b15 := SlT.old hsx1_12 lo_b15
      have nb_x2_b15 := SlT.old hsx2_12 lo_b15
      have nb_x11_b15 := SlT.old hsx11_12 lo_b15
      have fr_b15 : w0.heap.size ≤ b15 := Nat.le_trans hE_12.size' lo_b15
      clear hE_12 hN_13 hD_13 s0_13 s1_13 s6_13 s9_13 s10_13 s11_13 s12_13 s13_13 s14_13 hbb6_12 hbb10_12 hbb12_12 hbb13_12 hsx1_12 hsx2_12 hsx11_12
      refine tail_none rfl rfl (does_storeD (o := 0) (n := 8) (cs' := [w32 ((up (half l.length) i leaf (p.take (p.length - 1)).reverse).1).a, w32 ((up (half l.length) i leaf (p.take (p.length - 1)).reverse).1).b, w32 ((up (half l.length) i leaf (p.take (p.length - 1)).reverse).1).c, w32 ((up (half l.length) i leaf (p.take (p.length - 1)).reverse).1).d, w32 (z).a, w32 (z).b, w32 (z).c, w32 (z).d]) (V := Value.agg #[w32 ((up (half l.length) i leaf (p.take (p.length - 1)).reverse).1).a, w32 ((up (half l.length) i leaf (p.take (p.length - 1)).reverse).1).b, w32 ((up (half l.length) i leaf (p.take (p.length - 1)).reverse).1).c, w32 ((up (half l.length) i leaf (p.take (p.length - 1)).reverse).1).d, w32 (z).a, w32 (z).b, w32 (z).c, w32 (z).d]) s15_14 s63_14 hbb15_14 (Nat.le_of_ble_eq_true rfl) rfl siz_32 rfl rfl (fun wd15 hX hz hbb15_15 => ?_))
      have hE_15 := hE_14.since hX (fun k e => e ▸ fr_b15)
      have hbb6_15 := hbb6_14.ext hX ne_b6_b15
      have hbb10_15 := hbb10_14.ext hX ne_b10_b15
      have hbb12_15 := hbb12_14.ext hX ne_b12_b15
      have hbb13_15 := hbb13_14.ext hX ne_b13_b15
      have hsx1_15 := SlT.over hsx1_14 hX nb_x1_b15
      have hsx2_15 := SlT.over hsx2_14 hX nb_x2_b15
      have hsx11_15 := SlT.over hsx11_14 hX nb_x11_b15
      clear hX hz hE_14 hbb6_14 hbb10_14 hbb12_14 hbb13_14 hbb15_14 hsx1_14 hsx2_14 hsx11_14
      refine tail_nil ?_
      refine wp_seq ?_
      refine region_any [] [(64, Pr.ex (Value.agg #[w32 (root (l.take (half l.length))).a, w32 (root (l.take (half l.length))).b, w32 (root (l.take (half l.length))).c, w32 (root (l.take (half l.length))).d, w32 (root (l.drop (half l.length))).a, w32 (root (l.drop (half l.length))).b, w32 (root (l.drop (half l.length))).c, w32 (root (l.drop (half l.length))).d])), (65, Pr.ex (Value.agg #[w32 ((up (half l.length) i leaf (p.take (p.length - 1)).reverse).1).a, w32 ((up (half l.length) i leaf (p.take (p.length - 1)).reverse).1).b, w32 ((up (half l.length) i leaf (p.take (p.length - 1)).reverse).1).c, w32 ((up (half l.length) i leaf (p.take (p.length - 1)).reverse).1).d, w32 (z).a, w32 (z).b, w32 (z).c, w32 (z).d])), (66, Pr.ex (Value.bool (!decide (((root (l.take (half l.length)), root (l.drop (half l.length))) : Two) = (((up (half l.length) i leaf (p.take (p.length - 1)).reverse).1, z) : Two))))), (67, Pr.ex (Value.bool (!decide (((root (l.take (half l.length)), root (l.drop (half l.length))) : Two) = (((up (half l.length) i leaf (p.take (p.length - 1)).reverse).1, z) : Two))))), (68, Pr.ifb (!decide (((root (l.take (half l.length)), root (l.drop (half l.length))) : Two) = (((up (half l.length) i leaf (p.take (p.length - 1)).reverse).1, z) : Two))) (Pr.ex (Value.pointer (some ⟨b12, 0, none⟩)))), (69, Pr.ifb (!decide (((root (l.take (half l.length)), root (l.drop (half l.length))) : Two) = (((up (half l.length) i leaf (p.take (p.length - 1)).reverse).1, z) : Two))) (Pr.ex (Dg.val (root (l.take (half l.length)))))), (70, Pr.ifb (!decide (((root (l.take (half l.length)), root (l.drop (half l.length))) : Two) = (((up (half l.length) i leaf (p.take (p.length - 1)).reverse).1, z) : Two))) (Pr.ex (Value.pointer (some ⟨b12, 4, none⟩)))), (71, Pr.ifb (!decide (((root (l.take (half l.length)), root (l.drop (half l.length))) : Two) = (((up (half l.length) i leaf (p.take (p.length - 1)).reverse).1, z) : Two))) (Pr.ex (Dg.val (root (l.drop (half l.length)))))), (72, Pr.ifb (!decide (((root (l.take (half l.length)), root (l.drop (half l.length))) : Two) = (((up (half l.length) i leaf (p.take (p.length - 1)).reverse).1, z) : Two))) (Pr.ex (Dg.val (pair (root (l.take (half l.length))) (root (l.drop (half l.length))))))), (73, Pr.ifb (!decide (((root (l.take (half l.length)), root (l.drop (half l.length))) : Two) = (((up (half l.length) i leaf (p.take (p.length - 1)).reverse).1, z) : Two))) (Pr.ex (Value.pointer (some ⟨b15, 0, none⟩)))), (74, Pr.ifb (!decide (((root (l.take (half l.length)), root (l.drop (half l.length))) : Two) = (((up (half l.length) i leaf (p.take (p.length - 1)).reverse).1, z) : Two))) (Pr.ex (Dg.val ((up (half l.length) i leaf (p.take (p.length - 1)).reverse).1)))), (75, Pr.ifb (!decide (((root (l.take (half l.length)), root (l.drop (half l.length))) : Two) = (((up (half l.length) i leaf (p.take (p.length - 1)).reverse).1, z) : Two))) (Pr.ex (Value.pointer (some ⟨b15, 4, none⟩)))), (76, Pr.ifb (!decide (((root (l.take (half l.length)), root (l.drop (half l.length))) : Two) = (((up (half l.length) i leaf (p.take (p.length - 1)).reverse).1, z) : Two))) (Pr.ex (Dg.val (z)))), (77, Pr.ifb (!decide (((root (l.take (half l.length)), root (l.drop (half l.length))) : Two) = (((up (half l.length) i leaf (p.take (p.length - 1)).reverse).1, z) : Two))) (Pr.ex (Dg.val (pair ((up (half l.length) i leaf (p.take (p.length - 1)).reverse).1) z)))), (78, Pr.ifb (!decide (((root (l.take (half l.length)), root (l.drop (half l.length))) : Two) = (((up (half l.length) i leaf (p.take (p.length - 1)).reverse).1, z) : Two))) (Pr.ex (Value.bool (decide (pair (root (l.take (half l.length))) (root (l.drop (half l.length))) = pair ((up (half l.length) i leaf (p.take (p.length - 1)).reverse).1) z))))), (79, Pr.ex (Value.bool ((!decide (((root (l.take (half l.length)), root (l.drop (half l.length))) : Two) = (((up (half l.length) i leaf (p.take (p.length - 1)).reverse).1, z) : Two))) && (decide (pair (root (l.take (half l.length))) (root (l.drop (half l.length))) = pair ((up (half l.length) i leaf (p.take (p.length - 1)).reverse).1) z))))), (80, Pr.ex (Value.bool ((!decide (((root (l.take (half l.length)), root (l.drop (half l.length))) : Two) = (((up (half l.length) i leaf (p.take (p.length - 1)).reverse).1, z) : Two))) && (decide (pair (root (l.take (half l.length))) (root (l.drop (half l.length))) = pair ((up (half l.length) i leaf (p.take (p.length - 1)).reverse).1) z))))), (81, Pr.ifb (!((!decide (((root (l.take (half l.length)), root (l.drop (half l.length))) : Two) = (((up (half l.length) i leaf (p.take (p.length - 1)).reverse).1, z) : Two))) && (decide (pair (root (l.take (half l.length))) (root (l.drop (half l.length))) = pair ((up (half l.length) i leaf (p.take (p.length - 1)).reverse).1) z)))) (Pr.ex (x1))), (82, Pr.ifb (!((!decide (((root (l.take (half l.length)), root (l.drop (half l.length))) : Two) = (((up (half l.length) i leaf (p.take (p.length - 1)).reverse).1, z) : Two))) && (decide (pair (root (l.take (half l.length))) (root (l.drop (half l.length))) = pair ((up (half l.length) i leaf (p.take (p.length - 1)).reverse).1) z)))) (Pr.ex (i64 ((half l.length : Nat) : Int)))), (83, Pr.ifb (!((!decide (((root (l.take (half l.length)), root (l.drop (half l.length))) : Two) = (((up (half l.length) i leaf (p.take (p.length - 1)).reverse).1, z) : Two))) && (decide (pair (root (l.take (half l.length))) (root (l.drop (half l.length))) = pair ((up (half l.length) i leaf (p.take (p.length - 1)).reverse).1) z)))) (Pr.sl' DG 0 (w0.heap.size + 1) (l.take (half l.length)))), (84, Pr.ifb (!((!decide (((root (l.take (half l.length)), root (l.drop (half l.length))) : Two) = (((up (half l.length) i leaf (p.take (p.length - 1)).reverse).1, z) : Two))) && (decide (pair (root (l.take (half l.length))) (root (l.drop (half l.length))) = pair ((up (half l.length) i leaf (p.take (p.length - 1)).reverse).1) z)))) (Pr.ex (i64 ((i : Nat) : Int)))), (85, Pr.ifb (!((!decide (((root (l.take (half l.length)), root (l.drop (half l.length))) : Two) = (((up (half l.length) i leaf (p.take (p.length - 1)).reverse).1, z) : Two))) && (decide (pair (root (l.take (half l.length))) (root (l.drop (half l.length))) = pair ((up (half l.length) i leaf (p.take (p.length - 1)).reverse).1) z)))) (Pr.ex (Dg.val (leaf)))), (86, Pr.ifb (!((!decide (((root (l.take (half l.length)), root (l.drop (half l.length))) : Two) = (((up (half l.length) i leaf (p.take (p.length - 1)).reverse).1, z) : Two))) && (decide (pair (root (l.take (half l.length))) (root (l.drop (half l.length))) = pair ((up (half l.length) i leaf (p.take (p.length - 1)).reverse).1) z)))) (Pr.ex (x11))), (87, Pr.ifb (!((!decide (((root (l.take (half l.length)), root (l.drop (half l.length))) : Two) = (((up (half l.length) i leaf (p.take (p.length - 1)).reverse).1, z) : Two))) && (decide (pair (root (l.take (half l.length))) (root (l.drop (half l.length))) = pair ((up (half l.length) i leaf (p.take (p.length - 1)).reverse).1) z)))) (Pr.ex (Value.bool (fooled (l.take (half l.length)) i leaf (p.take (p.length - 1)).reverse)))), (88, Pr.ex (Value.bool (((!decide (((root (l.take (half l.length)), root (l.drop (half l.length))) : Two) = (((up (half l.length) i leaf (p.take (p.length - 1)).reverse).1, z) : Two))) && (decide (pair (root (l.take (half l.length))) (root (l.drop (half l.length))) = pair ((up (half l.length) i leaf (p.take (p.length - 1)).reverse).1) z))) || (fooled (l.take (half l.length)) i leaf (p.take (p.length - 1)).reverse)))), (8, Pr.ex (Value.bool (((!decide (((root (l.take (half l.length)), root (l.drop (half l.length))) : Two) = (((up (half l.length) i leaf (p.take (p.length - 1)).reverse).1, z) : Two))) && (decide (pair (root (l.take (half l.length))) (root (l.drop (half l.length))) = pair ((up (half l.length) i leaf (p.take (p.length - 1)).reverse).1) z))) || (fooled (l.take (half l.length)) i leaf (p.take (p.length - 1)).reverse))))] 26 mixed hN_14 hD_14 (by kernel_rfl) (by kernel_rfl) (by kernel_rfl) ?_ ?_
      · refine Asks.cons ?_ (Asks.cons ?_ (Asks.cons ?_ (Asks.cons ?_ (Asks.cons ?_ (Asks.cons ?_ (Asks.cons ?_ (Asks.cons ?_ (Asks.cons ?_ (Asks.cons ?_ (Asks.cons ?_ (Asks.cons ?_ (Asks.cons ?_ (Asks.cons ?_ (Asks.cons ?_ (Asks.cons ?_ (Asks.cons ?_ (Asks.cons ?_ (Asks.cons ?_ (Asks.cons ?_ (Asks.cons ?_ (Asks.cons ?_ (Asks.cons ?_ (Asks.cons ?_ (Asks.cons ?_ (Asks.cons ?_ (Asks.zero _))))))))))))))))))))))))))
        · refine Ask.plain rfl rfl ?_
          intro aq wq hNq hO hR hT
          replace hR := (Ext.drew _).trans hR
          exact does_loadD (o := 0) (n := 8) (mid := [w32 (root (l.take (half l.length))).a, w32 (root (l.take (half l.length))).b, w32 (root (l.take (half l.length))).c, w32 (root (l.take (half l.length))).d, w32 (root (l.drop (half l.length))).a, w32 (root (l.drop (half l.length))).b, w32 (root (l.drop (half l.length))).c, w32 (root (l.drop (half l.length))).d]) ((hO 12 rfl).trans s12_14) (hbb12_15.ext' hR) rfl rfl (Nat.le_of_ble_eq_true rfl) row_32 rfl ⟨Ext.refl _, rfl⟩
        · refine Ask.plain rfl rfl ?_
          intro aq wq hNq hO hR hT
          replace hR := (Ext.drew _).trans hR
          exact does_loadD (o := 0) (n := 8) (mid := [w32 ((up (half l.length) i leaf (p.take (p.length - 1)).reverse).1).a, w32 ((up (half l.length) i leaf (p.take (p.length - 1)).reverse).1).b, w32 ((up (half l.length) i leaf (p.take (p.length - 1)).reverse).1).c, w32 ((up (half l.length) i leaf (p.take (p.length - 1)).reverse).1).d, w32 (z).a, w32 (z).b, w32 (z).c, w32 (z).d]) ((hO 15 rfl).trans s15_14) (hbb15_15.ext' hR) rfl rfl (Nat.le_of_ble_eq_true rfl) row_32 rfl ⟨Ext.refl _, rfl⟩
        · refine Ask.plain rfl rfl ?_
          intro aq wq hNq hO hR hT
          replace hR := (Ext.drew _).trans hR
          exact does_neT (a := ((root (l.take (half l.length)), root (l.drop (half l.length))) : Two)) (b := (((up (half l.length) i leaf (p.take (p.length - 1)).reverse).1, z) : Two)) eq_32 (hT 64 rfl rfl) (hT 65 rfl rfl) ⟨Ext.refl _, rfl⟩
        · refine Ask.plain rfl rfl ?_
          intro aq wq hNq hO hR hT
          replace hR := (Ext.drew _).trans hR
          exact does_move (V := Value.bool (!decide (((root (l.take (half l.length)), root (l.drop (half l.length))) : Two) = (((up (half l.length) i leaf (p.take (p.length - 1)).reverse).1, z) : Two)))) (hT 66 rfl rfl) ⟨Ext.refl _, rfl⟩
        · refine Ask.guarded (B := !decide (((root (l.take (half l.length)), root (l.drop (half l.length))) : Two) = (((up (half l.length) i leaf (p.take (p.length - 1)).reverse).1, z) : Two))) (want := true) (t := 67) rfl rfl rfl rfl (by decide) (fun aq wq hO hR hT => hT 67 rfl rfl) (fun hG aq wq hNq hO hR hT => ?_) (fun hno _ => fun hc => absurd hc hno)
          replace hR := (Ext.drew _).trans hR
          exact does_indexArr (k := .i64) (i := 0) (o' := 0) arr_32 ((hO 12 rfl).trans s12_14) rfl (by decide) (by decide) rfl ⟨Ext.refl _, fun _ => rfl⟩
        · refine Ask.guarded (B := !decide (((root (l.take (half l.length)), root (l.drop (half l.length))) : Two) = (((up (half l.length) i leaf (p.take (p.length - 1)).reverse).1, z) : Two))) (want := true) (t := 67) rfl rfl rfl rfl (by decide) (fun aq wq hO hR hT => hT 67 rfl rfl) (fun hG aq wq hNq hO hR hT => ?_) (fun hno _ => fun hc => absurd hc hno)
          replace hR := (Ext.drew _).trans hR
          exact does_loadD (o := 0) (n := 4) (mid := [w32 (root (l.take (half l.length))).a, w32 (root (l.take (half l.length))).b, w32 (root (l.take (half l.length))).c, w32 (root (l.take (half l.length))).d]) (hT 68 rfl rfl hG) (hbb12_15.ext' hR) rfl rfl (Nat.le_of_ble_eq_true rfl) row_24 rfl ⟨Ext.refl _, fun _ => rfl⟩
        · refine Ask.guarded (B := !decide (((root (l.take (half l.length)), root (l.drop (half l.length))) : Two) = (((up (half l.length) i leaf (p.take (p.length - 1)).reverse).1, z) : Two))) (want := true) (t := 67) rfl rfl rfl rfl (by decide) (fun aq wq hO hR hT => hT 67 rfl rfl) (fun hG aq wq hNq hO hR hT => ?_) (fun hno _ => fun hc => absurd hc hno)
          replace hR := (Ext.drew _).trans hR
          exact does_indexArr (k := .i64) (i := 1) (o' := 4) arr_32 ((hO 12 rfl).trans s12_14) rfl (by decide) (by decide) rfl ⟨Ext.refl _, fun _ => rfl⟩
        · refine Ask.guarded (B := !decide (((root (l.take (half l.length)), root (l.drop (half l.length))) : Two) = (((up (half l.length) i leaf (p.take (p.length - 1)).reverse).1, z) : Two))) (want := true) (t := 67) rfl rfl rfl rfl (by decide) (fun aq wq hO hR hT => hT 67 rfl rfl) (fun hG aq wq hNq hO hR hT => ?_) (fun hno _ => fun hc => absurd hc hno)
          replace hR := (Ext.drew _).trans hR
          exact does_loadD (o := 4) (n := 4) (mid := [w32 (root (l.drop (half l.length))).a, w32 (root (l.drop (half l.length))).b, w32 (root (l.drop (half l.length))).c, w32 (root (l.drop (half l.length))).d]) (hT 70 rfl rfl hG) (hbb12_15.ext' hR) rfl rfl (Nat.le_of_ble_eq_true rfl) row_24 rfl ⟨Ext.refl _, fun _ => rfl⟩
        · refine Ask.guarded (B := !decide (((root (l.take (half l.length)), root (l.drop (half l.length))) : Two) = (((up (half l.length) i leaf (p.take (p.length - 1)).reverse).1, z) : Two))) (want := true) (t := 67) rfl rfl rfl rfl (by decide) (fun aq wq hO hR hT => hT 67 rfl rfl) (fun hG aq wq hNq hO hR hT => ?_) (fun hno _ => fun hc => absurd hc hno)
          replace hR := (Ext.drew _).trans hR
          exact does_ret (vs := #[Dg.val (root (l.take (half l.length))), Dg.val (root (l.drop (half l.length)))]) call_17 (args2 (hT 69 rfl rfl hG) (hT 71 rfl rfl hG)) rfl ((pairR (root (l.take (half l.length))) (root (l.drop (half l.length))) wq).mono fun v w2 h => ⟨h.2, fun _ => h.1⟩)
        · refine Ask.guarded (B := !decide (((root (l.take (half l.length)), root (l.drop (half l.length))) : Two) = (((up (half l.length) i leaf (p.take (p.length - 1)).reverse).1, z) : Two))) (want := true) (t := 67) rfl rfl rfl rfl (by decide) (fun aq wq hO hR hT => hT 67 rfl rfl) (fun hG aq wq hNq hO hR hT => ?_) (fun hno _ => fun hc => absurd hc hno)
          replace hR := (Ext.drew _).trans hR
          exact does_indexArr (k := .i64) (i := 0) (o' := 0) arr_32 ((hO 15 rfl).trans s15_14) rfl (by decide) (by decide) rfl ⟨Ext.refl _, fun _ => rfl⟩
        · refine Ask.guarded (B := !decide (((root (l.take (half l.length)), root (l.drop (half l.length))) : Two) = (((up (half l.length) i leaf (p.take (p.length - 1)).reverse).1, z) : Two))) (want := true) (t := 67) rfl rfl rfl rfl (by decide) (fun aq wq hO hR hT => hT 67 rfl rfl) (fun hG aq wq hNq hO hR hT => ?_) (fun hno _ => fun hc => absurd hc hno)
          replace hR := (Ext.drew _).trans hR
          exact does_loadD (o := 0) (n := 4) (mid := [w32 ((up (half l.length) i leaf (p.take (p.length - 1)).reverse).1).a, w32 ((up (half l.length) i leaf (p.take (p.length - 1)).reverse).1).b, w32 ((up (half l.length) i leaf (p.take (p.length - 1)).reverse).1).c, w32 ((up (half l.length) i leaf (p.take (p.length - 1)).reverse).1).d]) (hT 73 rfl rfl hG) (hbb15_15.ext' hR) rfl rfl (Nat.le_of_ble_eq_true rfl) row_24 rfl ⟨Ext.refl _, fun _ => rfl⟩
        · refine Ask.guarded (B := !decide (((root (l.take (half l.length)), root (l.drop (half l.length))) : Two) = (((up (half l.length) i leaf (p.take (p.length - 1)).reverse).1, z) : Two))) (want := true) (t := 67) rfl rfl rfl rfl (by decide) (fun aq wq hO hR hT => hT 67 rfl rfl) (fun hG aq wq hNq hO hR hT => ?_) (fun hno _ => fun hc => absurd hc hno)
          replace hR := (Ext.drew _).trans hR
          exact does_indexArr (k := .i64) (i := 1) (o' := 4) arr_32 ((hO 15 rfl).trans s15_14) rfl (by decide) (by decide) rfl ⟨Ext.refl _, fun _ => rfl⟩
        · refine Ask.guarded (B := !decide (((root (l.take (half l.length)), root (l.drop (half l.length))) : Two) = (((up (half l.length) i leaf (p.take (p.length - 1)).reverse).1, z) : Two))) (want := true) (t := 67) rfl rfl rfl rfl (by decide) (fun aq wq hO hR hT => hT 67 rfl rfl) (fun hG aq wq hNq hO hR hT => ?_) (fun hno _ => fun hc => absurd hc hno)
          replace hR := (Ext.drew _).trans hR
          exact does_loadD (o := 4) (n := 4) (mid := [w32 (z).a, w32 (z).b, w32 (z).c, w32 (z).d]) (hT 75 rfl rfl hG) (hbb15_15.ext' hR) rfl rfl (Nat.le_of_ble_eq_true rfl) row_24 rfl ⟨Ext.refl _, fun _ => rfl⟩
        · refine Ask.guarded (B := !decide (((root (l.take (half l.length)), root (l.drop (half l.length))) : Two) = (((up (half l.length) i leaf (p.take (p.length - 1)).reverse).1, z) : Two))) (want := true) (t := 67) rfl rfl rfl rfl (by decide) (fun aq wq hO hR hT => hT 67 rfl rfl) (fun hG aq wq hNq hO hR hT => ?_) (fun hno _ => fun hc => absurd hc hno)
          replace hR := (Ext.drew _).trans hR
          exact does_ret (vs := #[Dg.val ((up (half l.length) i leaf (p.take (p.length - 1)).reverse).1), Dg.val (z)]) call_17 (args2 (hT 74 rfl rfl hG) (hT 76 rfl rfl hG)) rfl ((pairR ((up (half l.length) i leaf (p.take (p.length - 1)).reverse).1) (z) wq).mono fun v w2 h => ⟨h.2, fun _ => h.1⟩)
        · refine Ask.guarded (B := !decide (((root (l.take (half l.length)), root (l.drop (half l.length))) : Two) = (((up (half l.length) i leaf (p.take (p.length - 1)).reverse).1, z) : Two))) (want := true) (t := 67) rfl rfl rfl rfl (by decide) (fun aq wq hO hR hT => hT 67 rfl rfl) (fun hG aq wq hNq hO hR hT => ?_) (fun hno _ => fun hc => absurd hc hno)
          replace hR := (Ext.drew _).trans hR
          exact does_eqT (a := pair (root (l.take (half l.length))) (root (l.drop (half l.length)))) (b := pair ((up (half l.length) i leaf (p.take (p.length - 1)).reverse).1) z) eq_24 (hT 72 rfl rfl hG) (hT 77 rfl rfl hG) ⟨Ext.refl _, fun _ => rfl⟩
        · refine Ask.plain rfl rfl ?_
          intro aq wq hNq hO hR hT
          replace hR := (Ext.drew _).trans hR
          exact does_and (B := !decide (((root (l.take (half l.length)), root (l.drop (half l.length))) : Two) = (((up (half l.length) i leaf (p.take (p.length - 1)).reverse).1, z) : Two))) (X := decide (pair (root (l.take (half l.length))) (root (l.drop (half l.length))) = pair ((up (half l.length) i leaf (p.take (p.length - 1)).reverse).1) z)) (hT 67 rfl rfl) (fun hB => (hT 78 rfl rfl hB)) rfl ⟨Ext.refl _, rfl⟩
        · refine Ask.plain rfl rfl ?_
          intro aq wq hNq hO hR hT
          replace hR := (Ext.drew _).trans hR
          exact does_move (V := Value.bool ((!decide (((root (l.take (half l.length)), root (l.drop (half l.length))) : Two) = (((up (half l.length) i leaf (p.take (p.length - 1)).reverse).1, z) : Two))) && (decide (pair (root (l.take (half l.length))) (root (l.drop (half l.length))) = pair ((up (half l.length) i leaf (p.take (p.length - 1)).reverse).1) z)))) (hT 79 rfl rfl) ⟨Ext.refl _, rfl⟩
        · refine Ask.guarded (B := (!decide (((root (l.take (half l.length)), root (l.drop (half l.length))) : Two) = (((up (half l.length) i leaf (p.take (p.length - 1)).reverse).1, z) : Two))) && (decide (pair (root (l.take (half l.length))) (root (l.drop (half l.length))) = pair ((up (half l.length) i leaf (p.take (p.length - 1)).reverse).1) z))) (want := false) (t := 80) rfl rfl rfl rfl (by decide) (fun aq wq hO hR hT => hT 80 rfl rfl) (fun hG aq wq hNq hO hR hT => ?_) (fun hno _ => fun hc => absurd (bn hc) hno)
          replace hG := nb hG
          replace hR := (Ext.drew _).trans hR
          exact does_move (V := x1) ((hO 0 rfl).trans s0_14) ⟨Ext.refl _, fun _ => rfl⟩
        · refine Ask.guarded (B := (!decide (((root (l.take (half l.length)), root (l.drop (half l.length))) : Two) = (((up (half l.length) i leaf (p.take (p.length - 1)).reverse).1, z) : Two))) && (decide (pair (root (l.take (half l.length))) (root (l.drop (half l.length))) = pair ((up (half l.length) i leaf (p.take (p.length - 1)).reverse).1) z))) (want := false) (t := 80) rfl rfl rfl rfl (by decide) (fun aq wq hO hR hT => hT 80 rfl rfl) (fun hG aq wq hNq hO hR hT => ?_) (fun hno _ => fun hc => absurd (bn hc) hno)
          replace hG := nb hG
          replace hR := (Ext.drew _).trans hR
          exact does_move (V := i64 ((half l.length : Nat) : Int)) ((hO 9 rfl).trans s9_14) ⟨Ext.refl _, fun _ => rfl⟩
        · refine Ask.guarded (B := (!decide (((root (l.take (half l.length)), root (l.drop (half l.length))) : Two) = (((up (half l.length) i leaf (p.take (p.length - 1)).reverse).1, z) : Two))) && (decide (pair (root (l.take (half l.length))) (root (l.drop (half l.length))) = pair ((up (half l.length) i leaf (p.take (p.length - 1)).reverse).1) z))) (want := false) (t := 80) rfl rfl rfl rfl (by decide) (fun aq wq hO hR hT => hT 80 rfl rfl) (fun hG aq wq hNq hO hR hT => ?_) (fun hno _ => fun hc => absurd (bn hc) hno)
          replace hG := nb hG
          replace hR := (Ext.drew _).trans hR
          exact does_sliceHi (T := DG) (xs := l) (k := ((half l.length : Nat) : Int)) sli_27 rfl (SlT.at (hT 81 rfl rfl hG) (hsx1_15.ext' hR)) (hT 82 rfl rfl hG) (by omega) (by omega) (fun v h => ⟨Ext.refl _, fun _ => h⟩)
        · refine Ask.guarded (B := (!decide (((root (l.take (half l.length)), root (l.drop (half l.length))) : Two) = (((up (half l.length) i leaf (p.take (p.length - 1)).reverse).1, z) : Two))) && (decide (pair (root (l.take (half l.length))) (root (l.drop (half l.length))) = pair ((up (half l.length) i leaf (p.take (p.length - 1)).reverse).1) z))) (want := false) (t := 80) rfl rfl rfl rfl (by decide) (fun aq wq hO hR hT => hT 80 rfl rfl) (fun hG aq wq hNq hO hR hT => ?_) (fun hno _ => fun hc => absurd (bn hc) hno)
          replace hG := nb hG
          replace hR := (Ext.drew _).trans hR
          exact does_move (V := i64 ((i : Nat) : Int)) ((hO 1 rfl).trans s1_14) ⟨Ext.refl _, fun _ => rfl⟩
        · refine Ask.guarded (B := (!decide (((root (l.take (half l.length)), root (l.drop (half l.length))) : Two) = (((up (half l.length) i leaf (p.take (p.length - 1)).reverse).1, z) : Two))) && (decide (pair (root (l.take (half l.length))) (root (l.drop (half l.length))) = pair ((up (half l.length) i leaf (p.take (p.length - 1)).reverse).1) z))) (want := false) (t := 80) rfl rfl rfl rfl (by decide) (fun aq wq hO hR hT => hT 80 rfl rfl) (fun hG aq wq hNq hO hR hT => ?_) (fun hno _ => fun hc => absurd (bn hc) hno)
          replace hG := nb hG
          replace hR := (Ext.drew _).trans hR
          exact does_loadD (o := 0) (n := 4) (mid := [w32 (leaf).a, w32 (leaf).b, w32 (leaf).c, w32 (leaf).d]) ((hO 6 rfl).trans s6_14) (hbb6_15.ext' hR) rfl rfl (Nat.le_of_ble_eq_true rfl) row_24 rfl ⟨Ext.refl _, fun _ => rfl⟩
        · refine Ask.guarded (B := (!decide (((root (l.take (half l.length)), root (l.drop (half l.length))) : Two) = (((up (half l.length) i leaf (p.take (p.length - 1)).reverse).1, z) : Two))) && (decide (pair (root (l.take (half l.length))) (root (l.drop (half l.length))) = pair ((up (half l.length) i leaf (p.take (p.length - 1)).reverse).1) z))) (want := false) (t := 80) rfl rfl rfl rfl (by decide) (fun aq wq hO hR hT => hT 80 rfl rfl) (fun hG aq wq hNq hO hR hT => ?_) (fun hno _ => fun hc => absurd (bn hc) hno)
          replace hG := nb hG
          replace hR := (Ext.drew _).trans hR
          exact does_move (V := x11) ((hO 11 rfl).trans s11_14) ⟨Ext.refl _, fun _ => rfl⟩
        · refine Ask.guarded (B := (!decide (((root (l.take (half l.length)), root (l.drop (half l.length))) : Two) = (((up (half l.length) i leaf (p.take (p.length - 1)).reverse).1, z) : Two))) && (decide (pair (root (l.take (half l.length))) (root (l.drop (half l.length))) = pair ((up (half l.length) i leaf (p.take (p.length - 1)).reverse).1) z))) (want := false) (t := 80) rfl rfl rfl rfl (by decide) (fun aq wq hO hR hT => hT 80 rfl rfl) (fun hG aq wq hNq hO hR hT => ?_) (fun hno _ => fun hc => absurd (bn hc) hno)
          replace hG := nb hG
          replace hR := (Ext.drew _).trans hR
          exact does_ret (vs := #[get aq 83, i64 ((i : Nat) : Int), Dg.val (leaf), x11]) call_22 (args4 rfl (hT 84 rfl rfl hG) (hT 85 rfl rfl hG) (hT 86 rfl rfl hG)) rfl ((ih _ (by first | omega | (simp only [List.length_take]; omega) | (simp only [List.length_drop]; omega)) (l.take (half l.length)) i leaf (p.take (p.length - 1)) (get aq 83) (x11) wq ((hT 83 rfl rfl hG).wide (Nat.zero_le _) (.inl rfl)) ((hsx11_15.ext' hR).wide (Nat.zero_le _) (.inl rfl)) (by first | omega | (simp only [List.length_take]; omega) | (simp only [List.length_drop]; omega)) (by first | omega | (simp only [List.length_take]; omega) | (simp only [List.length_drop]; omega)) (by first | omega | (simp only [List.length_take]; omega) | (simp only [List.length_drop]; omega)) rfl).mono fun v w2 h => ⟨h.2, fun _ => h.1⟩)
        · refine Ask.plain rfl rfl ?_
          intro aq wq hNq hO hR hT
          replace hR := (Ext.drew _).trans hR
          exact does_or (B := (!decide (((root (l.take (half l.length)), root (l.drop (half l.length))) : Two) = (((up (half l.length) i leaf (p.take (p.length - 1)).reverse).1, z) : Two))) && (decide (pair (root (l.take (half l.length))) (root (l.drop (half l.length))) = pair ((up (half l.length) i leaf (p.take (p.length - 1)).reverse).1) z))) (X := fooled (l.take (half l.length)) i leaf (p.take (p.length - 1)).reverse) (hT 80 rfl rfl) rfl (fun hB => (hT 87 rfl rfl (nb hB))) ⟨Ext.refl _, rfl⟩
        · refine Ask.plain rfl rfl ?_
          intro aq wq hNq hO hR hT
          replace hR := (Ext.drew _).trans hR
          exact does_assign (V := Value.bool (((!decide (((root (l.take (half l.length)), root (l.drop (half l.length))) : Two) = (((up (half l.length) i leaf (p.take (p.length - 1)).reverse).1, z) : Two))) && (decide (pair (root (l.take (half l.length))) (root (l.drop (half l.length))) = pair ((up (half l.length) i leaf (p.take (p.length - 1)).reverse).1) z))) || (fooled (l.take (half l.length)) i leaf (p.take (p.length - 1)).reverse))) (hT 88 rfl rfl) ⟨Ext.refl _, rfl⟩
      intro a16 wd16 hN_16 hD_16 hO hR hA hU
      obtain ⟨_, _, _, _, _, _, _, _, _, _, _, _, _, _, _, _, _, _, _, _, _, _, _, _, _, t8, _⟩ := hA
      have hE_16 := hE_15.trans hR
      have hbb6_16 := hbb6_15.ext' hR
      have hbb10_16 := hbb10_15.ext' hR
      have hbb12_16 := hbb12_15.ext' hR
      have hbb13_16 := hbb13_15.ext' hR
      have hbb15_16 := hbb15_15.ext' hR
      have hsx1_16 := hsx1_15.ext' hR
      have hsx2_16 := hsx2_15.ext' hR
      have hsx11_16 := hsx11_15.ext' hR
      have s8_16 : get a16 8 = Value.bool (((!decide (((root (l.take (half l.length)), root (l.drop (half l.length))) : Two) = (((up (half l.length) i leaf (p.take (p.length - 1)).reverse).1, z) : Two))) && (decide (pair (root (l.take (half l.length))) (root (l.drop (half l.length))) = pair ((up (half l.length) i leaf (p.take (p.length - 1)).reverse).1) z))) || (fooled (l.take (half l.length)) i leaf (p.take (p.length - 1)).reverse)) := t8
      clear hE_15 hN_14 hD_14 s0_14 s1_14 s6_14 s9_14 s11_14 s12_14 s15_14 s63_14 hbb6_15 hbb10_15 hbb12_15 hbb13_15 hbb15_15 hsx1_15 hsx2_15 hsx11_15
      refine tail_nil ?_
      refine wp_ret ?_
      refine res_one (V := Value.bool (((!decide (((root (l.take (half l.length)), root (l.drop (half l.length))) : Two) = (((up (half l.length) i leaf (p.take (p.length - 1)).reverse).1, z) : Two))) && (decide (pair (root (l.take (half l.length))) (root (l.drop (half l.length))) = pair ((up (half l.length) i leaf (p.take (p.length - 1)).reverse).1) z))) || (fooled (l.take (half l.length)) i leaf (p.take (p.length - 1)).reverse))) rfl hD_16 s8_16 ?_
      have hr := rev_of hz (by omega)
      exact ⟨by show Value.bool _ = Value.bool _; rw [hr, fooled_lo h2 hlt, decide_not], hE_16⟩
    have hc1 := of_decide_eq_false hc1
    have hge : ¬ i < half l.length := by omega
    refine wp_skip ?_
    refine wp_seq ?_
    refine region_lex [16] [(90, Pr.ex (x1)), (91, Pr.ex (i64 ((l.length : Nat) : Int))), (92, Pr.ex (i64 ((half l.length : Nat) : Int))), (93, Pr.ex (i64 ((l.length - (half l.length) : Nat) : Int))), (94, Pr.ex (i64 ((i : Nat) : Int))), (95, Pr.ex (i64 ((half l.length : Nat) : Int))), (96, Pr.ex (i64 ((i - (half l.length) : Nat) : Int))), (97, Pr.ex (Dg.val (leaf))), (98, Pr.ex (x11)), (99, Pr.ex (Value.tuple #[Dg.val ((up (l.length - (half l.length)) (i - (half l.length)) leaf (p.take (p.length - 1)).reverse).1), Value.bool ((up (l.length - (half l.length)) (i - (half l.length)) leaf (p.take (p.length - 1)).reverse).2)])), (89, Pr.ex (Value.tuple #[Dg.val ((up (l.length - (half l.length)) (i - (half l.length)) leaf (p.take (p.length - 1)).reverse).1), Value.bool ((up (l.length - (half l.length)) (i - (half l.length)) leaf (p.take (p.length - 1)).reverse).2)])), (100, Pr.ex (Dg.val ((up (l.length - (half l.length)) (i - (half l.length)) leaf (p.take (p.length - 1)).reverse).1))), (101, Pr.ex (Value.bool ((up (l.length - (half l.length)) (i - (half l.length)) leaf (p.take (p.length - 1)).reverse).2))), (16, Pr.box' wd10.heap.size 24 [w32 (Dg.zero).a, w32 (Dg.zero).b, w32 (Dg.zero).c, w32 (Dg.zero).d])] 14 hN_10 hD_10 (by kernel_rfl) (by kernel_rfl) ?_ ?_
    · refine Asks.cons ?_ (Asks.cons ?_ (Asks.cons ?_ (Asks.cons ?_ (Asks.cons ?_ (Asks.cons ?_ (Asks.cons ?_ (Asks.cons ?_ (Asks.cons ?_ (Asks.cons ?_ (Asks.cons ?_ (Asks.cons ?_ (Asks.cons ?_ (Asks.cons ?_ (Asks.zero _))))))))))))))
      · refine Ask.plain rfl rfl ?_
        intro aq wq hNq hO hR hT
        exact does_move (V := x1) ((hO 0 rfl).trans s0_10) ⟨Ext.refl _, rfl⟩
      · refine Ask.plain rfl rfl ?_
        intro aq wq hNq hO hR hT
        exact does_len (T := DG) (xs := l) sli_27 (SlT.at (hT 90 rfl rfl) (hsx1_10.ext' hR)) ⟨Ext.refl _, rfl⟩
      · refine Ask.plain rfl rfl ?_
        intro aq wq hNq hO hR hT
        exact does_move (V := i64 ((half l.length : Nat) : Int)) ((hO 9 rfl).trans s9_10) ⟨Ext.refl _, rfl⟩
      · refine Ask.plain rfl rfl ?_
        intro aq wq hNq hO hR hT
        exact does_sub (a := ((l.length : Nat) : Int)) (b := ((half l.length : Nat) : Int)) (r := ((l.length - (half l.length) : Nat) : Int)) (hT 91 rfl rfl) (hT 92 rfl rfl) (by omega) (by omega) (by omega) ⟨Ext.refl _, rfl⟩
      · refine Ask.plain rfl rfl ?_
        intro aq wq hNq hO hR hT
        exact does_move (V := i64 ((i : Nat) : Int)) ((hO 1 rfl).trans s1_10) ⟨Ext.refl _, rfl⟩
      · refine Ask.plain rfl rfl ?_
        intro aq wq hNq hO hR hT
        exact does_move (V := i64 ((half l.length : Nat) : Int)) ((hO 9 rfl).trans s9_10) ⟨Ext.refl _, rfl⟩
      · refine Ask.plain rfl rfl ?_
        intro aq wq hNq hO hR hT
        exact does_sub (a := ((i : Nat) : Int)) (b := ((half l.length : Nat) : Int)) (r := ((i - (half l.length) : Nat) : Int)) (hT 94 rfl rfl) (hT 95 rfl rfl) (by omega) (by omega) (by omega) ⟨Ext.refl _, rfl⟩
      · refine Ask.plain rfl rfl ?_
        intro aq wq hNq hO hR hT
        exact does_loadD (o := 0) (n := 4) (mid := [w32 (leaf).a, w32 (leaf).b, w32 (leaf).c, w32 (leaf).d]) ((hO 6 rfl).trans s6_10) (hbb6_10.ext' hR) rfl rfl (Nat.le_of_ble_eq_true rfl) row_24 rfl ⟨Ext.refl _, rfl⟩
      · refine Ask.plain rfl rfl ?_
        intro aq wq hNq hO hR hT
        exact does_move (V := x11) ((hO 11 rfl).trans s11_10) ⟨Ext.refl _, rfl⟩
      · refine Ask.plain rfl rfl ?_
        intro aq wq hNq hO hR hT
        exact does_ret (vs := #[i64 ((l.length - (half l.length) : Nat) : Int), i64 ((i - (half l.length) : Nat) : Int), Dg.val (leaf), x11]) call_40 (args4 (hT 93 rfl rfl) (hT 96 rfl rfl) (hT 97 rfl rfl) (hT 98 rfl rfl)) rfl ((upR (l.length - (half l.length)) (i - (half l.length)) leaf (p.take (p.length - 1)) (x11) wq ((hsx11_10.ext' hR).wide (Nat.zero_le _) (.inl rfl)) (by first | omega | (simp only [List.length_take]; omega) | (simp only [List.length_drop]; omega)) (by first | omega | (simp only [List.length_take]; omega) | (simp only [List.length_drop]; omega)) (by first | omega | (simp only [List.length_take]; omega) | (simp only [List.length_drop]; omega)) (by first | omega | (simp only [List.length_take]; omega) | (simp only [List.length_drop]; omega))).mono fun v w2 h => ⟨h.2, h.1⟩)
      · refine Ask.plain rfl rfl ?_
        intro aq wq hNq hO hR hT
        exact does_move (V := Value.tuple #[Dg.val ((up (l.length - (half l.length)) (i - (half l.length)) leaf (p.take (p.length - 1)).reverse).1), Value.bool ((up (l.length - (half l.length)) (i - (half l.length)) leaf (p.take (p.length - 1)).reverse).2)]) (hT 99 rfl rfl) ⟨Ext.refl _, rfl⟩
      · refine Ask.plain rfl rfl ?_
        intro aq wq hNq hO hR hT
        exact does_extract (V := Dg.val ((up (l.length - (half l.length)) (i - (half l.length)) leaf (p.take (p.length - 1)).reverse).1)) (hT 89 rfl rfl) rfl ⟨Ext.refl _, rfl⟩
      · refine Ask.plain rfl rfl ?_
        intro aq wq hNq hO hR hT
        exact does_extract (V := Value.bool ((up (l.length - (half l.length)) (i - (half l.length)) leaf (p.take (p.length - 1)).reverse).2)) (hT 89 rfl rfl) rfl ⟨Ext.refl _, rfl⟩
      · refine Ask.fresh rfl rfl ?_
        intro aq wq hNq hO hR hT
        exact does_alloc zero_24 (fun b w2 he hlo hb => ⟨he, ⟨b, rfl, Nat.le_trans hR.size' hlo, hb⟩, ⟨b, rfl, hlo, hb.lt⟩⟩)
    intro a17 wd17 hN_17 hD_17 hO hR hA hU
    obtain ⟨_, _, _, _, _, _, _, _, _, _, _, t100, t101, t16, _⟩ := hA
    have hE_17 := hE_10.trans hR
    have s0_17 := (hO 0 rfl).trans s0_10
    have s1_17 := (hO 1 rfl).trans s1_10
    have s6_17 := (hO 6 rfl).trans s6_10
    have s9_17 := (hO 9 rfl).trans s9_10
    have s10_17 := (hO 10 rfl).trans s10_10
    have s11_17 := (hO 11 rfl).trans s11_10
    have s12_17 := (hO 12 rfl).trans s12_10
    have hbb6_17 := hbb6_10.ext' hR
    have hbb10_17 := hbb10_10.ext' hR
    have hbb12_17 := hbb12_10.ext' hR
    have hsx1_17 := hsx1_10.ext' hR
    have hsx2_17 := hsx2_10.ext' hR
    have hsx11_17 := hsx11_10.ext' hR
    have s100_17 : get a17 100 = Dg.val ((up (l.length - (half l.length)) (i - (half l.length)) leaf (p.take (p.length - 1)).reverse).1) := t100
    have s101_17 : get a17 101 = Value.bool ((up (l.length - (half l.length)) (i - (half l.length)) leaf (p.take (p.length - 1)).reverse).2) := t101
    obtain ⟨b16, s16_17, lo_b16, hbb16_17⟩ := t16
    have ne_b6_b16 : b6 ≠ b16 := fun e => Nat.lt_irrefl _ (Nat.lt_of_lt_of_le hbb6_10.lt (e ▸ lo_b16))
    have ne_b10_b16 : b10 ≠ b16 := fun e => Nat.lt_irrefl _ (Nat.lt_of_lt_of_le hbb10_10.lt (e ▸ lo_b16))
    have ne_b12_b16 : b12 ≠ b16 := fun e => Nat.lt_irrefl _ (Nat.lt_of_lt_of_le hbb12_10.lt (e ▸ lo_b16))
    have nb_x1_b16 := SlT.old hsx1_10 lo_b16
    have nb_x2_b16 := SlT.old hsx2_10 lo_b16
    have nb_x11_b16 := SlT.old hsx11_10 lo_b16
    have fr_b16 : w0.heap.size ≤ b16 := Nat.le_trans hE_10.size' lo_b16
    clear hE_10 hN_10 hD_10 s0_10 s1_10 s6_10 s9_10 s10_10 s11_10 s12_10 s52_10 hbb6_10 hbb10_10 hbb12_10 hsx1_10 hsx2_10 hsx11_10
    refine tail_none rfl rfl (does_storeD (o := 0) (n := 4) (cs' := [w32 ((up (l.length - (half l.length)) (i - (half l.length)) leaf (p.take (p.length - 1)).reverse).1).a, w32 ((up (l.length - (half l.length)) (i - (half l.length)) leaf (p.take (p.length - 1)).reverse).1).b, w32 ((up (l.length - (half l.length)) (i - (half l.length)) leaf (p.take (p.length - 1)).reverse).1).c, w32 ((up (l.length - (half l.length)) (i - (half l.length)) leaf (p.take (p.length - 1)).reverse).1).d]) (V := Dg.val ((up (l.length - (half l.length)) (i - (half l.length)) leaf (p.take (p.length - 1)).reverse).1)) s16_17 s100_17 hbb16_17 (Nat.le_of_ble_eq_true rfl) rfl siz_24 rfl rfl (fun wd18 hX hz hbb16_18 => ?_))
    have hE_18 := hE_17.since hX (fun k e => e ▸ fr_b16)
    have hbb6_18 := hbb6_17.ext hX ne_b6_b16
    have hbb10_18 := hbb10_17.ext hX ne_b10_b16
    have hbb12_18 := hbb12_17.ext hX ne_b12_b16
    have hsx1_18 := SlT.over hsx1_17 hX nb_x1_b16
    have hsx2_18 := SlT.over hsx2_17 hX nb_x2_b16
    have hsx11_18 := SlT.over hsx11_17 hX nb_x11_b16
    clear hX hz hE_17 hbb6_17 hbb10_17 hbb12_17 hbb16_17 hsx1_17 hsx2_17 hsx11_17
    refine tail_put rfl rfl hN_17 hD_17 (by decide) (does_assign (V := Value.bool ((up (l.length - (half l.length)) (i - (half l.length)) leaf (p.take (p.length - 1)).reverse).2)) s101_17 (fun a19 hN_19 hD_19 hv hO => ?_))
    have s17_19 := hv
    have s0_19 := (hO 0 rfl).trans s0_17
    have s1_19 := (hO 1 rfl).trans s1_17
    have s6_19 := (hO 6 rfl).trans s6_17
    have s9_19 := (hO 9 rfl).trans s9_17
    have s10_19 := (hO 10 rfl).trans s10_17
    have s11_19 := (hO 11 rfl).trans s11_17
    have s12_19 := (hO 12 rfl).trans s12_17
    have s16_19 := (hO 16 rfl).trans s16_17
    clear hO hv hN_17 hD_17 s0_17 s1_17 s6_17 s9_17 s10_17 s11_17 s12_17 s16_17 s100_17 s101_17
    refine tail_nil ?_
    refine wp_seq ?_
    refine region_lex [18] [(102, Pr.ex (Dg.val (z))), (103, Pr.ex (Dg.val ((up (l.length - (half l.length)) (i - (half l.length)) leaf (p.take (p.length - 1)).reverse).1))), (104, Pr.ex (Value.agg #[w32 (z).a, w32 (z).b, w32 (z).c, w32 (z).d, w32 ((up (l.length - (half l.length)) (i - (half l.length)) leaf (p.take (p.length - 1)).reverse).1).a, w32 ((up (l.length - (half l.length)) (i - (half l.length)) leaf (p.take (p.length - 1)).reverse).1).b, w32 ((up (l.length - (half l.length)) (i - (half l.length)) leaf (p.take (p.length - 1)).reverse).1).c, w32 ((up (l.length - (half l.length)) (i - (half l.length)) leaf (p.take (p.length - 1)).reverse).1).d])), (18, Pr.box' wd18.heap.size 32 [w32 (Dg.zero).a, w32 (Dg.zero).b, w32 (Dg.zero).c, w32 (Dg.zero).d, w32 (Dg.zero).a, w32 (Dg.zero).b, w32 (Dg.zero).c, w32 (Dg.zero).d])] 4 hN_19 hD_19 (by kernel_rfl) (by kernel_rfl) ?_ ?_
    · refine Asks.cons ?_ (Asks.cons ?_ (Asks.cons ?_ (Asks.cons ?_ (Asks.zero _))))
      · refine Ask.plain rfl rfl ?_
        intro aq wq hNq hO hR hT
        exact does_loadD (o := 0) (n := 4) (mid := [w32 (z).a, w32 (z).b, w32 (z).c, w32 (z).d]) ((hO 10 rfl).trans s10_19) (hbb10_18.ext' hR) rfl rfl (Nat.le_of_ble_eq_true rfl) row_24 rfl ⟨Ext.refl _, rfl⟩
      · refine Ask.plain rfl rfl ?_
        intro aq wq hNq hO hR hT
        exact does_loadD (o := 0) (n := 4) (mid := [w32 ((up (l.length - (half l.length)) (i - (half l.length)) leaf (p.take (p.length - 1)).reverse).1).a, w32 ((up (l.length - (half l.length)) (i - (half l.length)) leaf (p.take (p.length - 1)).reverse).1).b, w32 ((up (l.length - (half l.length)) (i - (half l.length)) leaf (p.take (p.length - 1)).reverse).1).c, w32 ((up (l.length - (half l.length)) (i - (half l.length)) leaf (p.take (p.length - 1)).reverse).1).d]) ((hO 16 rfl).trans s16_19) (hbb16_18.ext' hR) rfl rfl (Nat.le_of_ble_eq_true rfl) row_24 rfl ⟨Ext.refl _, rfl⟩
      · refine Ask.plain rfl rfl ?_
        intro aq wq hNq hO hR hT
        exact does_build (vs := #[(0, Dg.val (z)), (1, Dg.val ((up (l.length - (half l.length)) (i - (half l.length)) leaf (p.take (p.length - 1)).reverse).1))]) (V := Value.agg #[w32 (z).a, w32 (z).b, w32 (z).c, w32 (z).d, w32 ((up (l.length - (half l.length)) (i - (half l.length)) leaf (p.take (p.length - 1)).reverse).1).a, w32 ((up (l.length - (half l.length)) (i - (half l.length)) leaf (p.take (p.length - 1)).reverse).1).b, w32 ((up (l.length - (half l.length)) (i - (half l.length)) leaf (p.take (p.length - 1)).reverse).1).c, w32 ((up (l.length - (half l.length)) (i - (half l.length)) leaf (p.take (p.length - 1)).reverse).1).d]) (parts2 (hT 102 rfl rfl) (hT 103 rfl rfl)) (by kernel_rfl) ⟨Ext.refl _, rfl⟩
      · refine Ask.fresh rfl rfl ?_
        intro aq wq hNq hO hR hT
        exact does_alloc zero_32 (fun b w2 he hlo hb => ⟨he, ⟨b, rfl, Nat.le_trans hR.size' hlo, hb⟩, ⟨b, rfl, hlo, hb.lt⟩⟩)
    intro a20 wd20 hN_20 hD_20 hO hR hA hU
    obtain ⟨_, _, t104, t18, _⟩ := hA
    have hE_20 := hE_18.trans hR
    have s0_20 := (hO 0 rfl).trans s0_19
    have s1_20 := (hO 1 rfl).trans s1_19
    have s6_20 := (hO 6 rfl).trans s6_19
    have s9_20 := (hO 9 rfl).trans s9_19
    have s11_20 := (hO 11 rfl).trans s11_19
    have s12_20 := (hO 12 rfl).trans s12_19
    have hbb6_20 := hbb6_18.ext' hR
    have hbb10_20 := hbb10_18.ext' hR
    have hbb12_20 := hbb12_18.ext' hR
    have hbb16_20 := hbb16_18.ext' hR
    have hsx1_20 := hsx1_18.ext' hR
    have hsx2_20 := hsx2_18.ext' hR
    have hsx11_20 := hsx11_18.ext' hR
    have s104_20 : get a20 104 = Value.agg #[w32 (z).a, w32 (z).b, w32 (z).c, w32 (z).d, w32 ((up (l.length - (half l.length)) (i - (half l.length)) leaf (p.take (p.length - 1)).reverse).1).a, w32 ((up (l.length - (half l.length)) (i - (half l.length)) leaf (p.take (p.length - 1)).reverse).1).b, w32 ((up (l.length - (half l.length)) (i - (half l.length)) leaf (p.take (p.length - 1)).reverse).1).c, w32 ((up (l.length - (half l.length)) (i - (half l.length)) leaf (p.take (p.length - 1)).reverse).1).d] := t104
    obtain ⟨b18, s18_20, lo_b18, hbb18_20⟩ := t18
    have ne_b6_b18 : b6 ≠ b18 := fun e => Nat.lt_irrefl _ (Nat.lt_of_lt_of_le hbb6_18.lt (e ▸ lo_b18))
    have ne_b10_b18 : b10 ≠ b18 := fun e => Nat.lt_irrefl _ (Nat.lt_of_lt_of_le hbb10_18.lt (e ▸ lo_b18))
    have ne_b12_b18 : b12 ≠ b18 := fun e => Nat.lt_irrefl _ (Nat.lt_of_lt_of_le hbb12_18.lt (e ▸ lo_b18))
    have ne_b16_b18 : b16 ≠ b18 := fun e => Nat.lt_irrefl _ (Nat.lt_of_lt_of_le hbb16_18.lt (e ▸ lo_b18))
    have nb_x1_b18 := SlT.old hsx1_18 lo_b18
    have nb_x2_b18 := SlT.old hsx2_18 lo_b18
    have nb_x11_b18 := SlT.old hsx11_18 lo_b18
    have fr_b18 : w0.heap.size ≤ b18 := Nat.le_trans hE_18.size' lo_b18
    clear hE_18 hN_19 hD_19 s0_19 s1_19 s6_19 s9_19 s10_19 s11_19 s12_19 s16_19 s17_19 hbb6_18 hbb10_18 hbb12_18 hbb16_18 hsx1_18 hsx2_18 hsx11_18
    refine tail_none rfl rfl (does_storeD (o := 0) (n := 8) (cs' := [w32 (z).a, w32 (z).b, w32 (z).c, w32 (z).d, w32 ((up (l.length - (half l.length)) (i - (half l.length)) leaf (p.take (p.length - 1)).reverse).1).a, w32 ((up (l.length - (half l.length)) (i - (half l.length)) leaf (p.take (p.length - 1)).reverse).1).b, w32 ((up (l.length - (half l.length)) (i - (half l.length)) leaf (p.take (p.length - 1)).reverse).1).c, w32 ((up (l.length - (half l.length)) (i - (half l.length)) leaf (p.take (p.length - 1)).reverse).1).d]) (V := Value.agg #[w32 (z).a, w32 (z).b, w32 (z).c, w32 (z).d, w32 ((up (l.length - (half l.length)) (i - (half l.length)) leaf (p.take (p.length - 1)).reverse).1).a, w32 ((up (l.length - (half l.length)) (i - (half l.length)) leaf (p.take (p.length - 1)).reverse).1).b, w32 ((up (l.length - (half l.length)) (i - (half l.length)) leaf (p.take (p.length - 1)).reverse).1).c, w32 ((up (l.length - (half l.length)) (i - (half l.length)) leaf (p.take (p.length - 1)).reverse).1).d]) s18_20 s104_20 hbb18_20 (Nat.le_of_ble_eq_true rfl) rfl siz_32 rfl rfl (fun wd21 hX hz hbb18_21 => ?_))
    have hE_21 := hE_20.since hX (fun k e => e ▸ fr_b18)
    have hbb6_21 := hbb6_20.ext hX ne_b6_b18
    have hbb10_21 := hbb10_20.ext hX ne_b10_b18
    have hbb12_21 := hbb12_20.ext hX ne_b12_b18
    have hbb16_21 := hbb16_20.ext hX ne_b16_b18
    have hsx1_21 := SlT.over hsx1_20 hX nb_x1_b18
    have hsx2_21 := SlT.over hsx2_20 hX nb_x2_b18
    have hsx11_21 := SlT.over hsx11_20 hX nb_x11_b18
    clear hX hz hE_20 hbb6_20 hbb10_20 hbb12_20 hbb16_20 hbb18_20 hsx1_20 hsx2_20 hsx11_20
    refine tail_nil ?_
    refine wp_seq ?_
    refine region_any [] [(105, Pr.ex (Value.agg #[w32 (root (l.take (half l.length))).a, w32 (root (l.take (half l.length))).b, w32 (root (l.take (half l.length))).c, w32 (root (l.take (half l.length))).d, w32 (root (l.drop (half l.length))).a, w32 (root (l.drop (half l.length))).b, w32 (root (l.drop (half l.length))).c, w32 (root (l.drop (half l.length))).d])), (106, Pr.ex (Value.agg #[w32 (z).a, w32 (z).b, w32 (z).c, w32 (z).d, w32 ((up (l.length - (half l.length)) (i - (half l.length)) leaf (p.take (p.length - 1)).reverse).1).a, w32 ((up (l.length - (half l.length)) (i - (half l.length)) leaf (p.take (p.length - 1)).reverse).1).b, w32 ((up (l.length - (half l.length)) (i - (half l.length)) leaf (p.take (p.length - 1)).reverse).1).c, w32 ((up (l.length - (half l.length)) (i - (half l.length)) leaf (p.take (p.length - 1)).reverse).1).d])), (107, Pr.ex (Value.bool (!decide (((root (l.take (half l.length)), root (l.drop (half l.length))) : Two) = ((z, (up (l.length - (half l.length)) (i - (half l.length)) leaf (p.take (p.length - 1)).reverse).1) : Two))))), (108, Pr.ex (Value.bool (!decide (((root (l.take (half l.length)), root (l.drop (half l.length))) : Two) = ((z, (up (l.length - (half l.length)) (i - (half l.length)) leaf (p.take (p.length - 1)).reverse).1) : Two))))), (109, Pr.ifb (!decide (((root (l.take (half l.length)), root (l.drop (half l.length))) : Two) = ((z, (up (l.length - (half l.length)) (i - (half l.length)) leaf (p.take (p.length - 1)).reverse).1) : Two))) (Pr.ex (Value.pointer (some ⟨b12, 0, none⟩)))), (110, Pr.ifb (!decide (((root (l.take (half l.length)), root (l.drop (half l.length))) : Two) = ((z, (up (l.length - (half l.length)) (i - (half l.length)) leaf (p.take (p.length - 1)).reverse).1) : Two))) (Pr.ex (Dg.val (root (l.take (half l.length)))))), (111, Pr.ifb (!decide (((root (l.take (half l.length)), root (l.drop (half l.length))) : Two) = ((z, (up (l.length - (half l.length)) (i - (half l.length)) leaf (p.take (p.length - 1)).reverse).1) : Two))) (Pr.ex (Value.pointer (some ⟨b12, 4, none⟩)))), (112, Pr.ifb (!decide (((root (l.take (half l.length)), root (l.drop (half l.length))) : Two) = ((z, (up (l.length - (half l.length)) (i - (half l.length)) leaf (p.take (p.length - 1)).reverse).1) : Two))) (Pr.ex (Dg.val (root (l.drop (half l.length)))))), (113, Pr.ifb (!decide (((root (l.take (half l.length)), root (l.drop (half l.length))) : Two) = ((z, (up (l.length - (half l.length)) (i - (half l.length)) leaf (p.take (p.length - 1)).reverse).1) : Two))) (Pr.ex (Dg.val (pair (root (l.take (half l.length))) (root (l.drop (half l.length))))))), (114, Pr.ifb (!decide (((root (l.take (half l.length)), root (l.drop (half l.length))) : Two) = ((z, (up (l.length - (half l.length)) (i - (half l.length)) leaf (p.take (p.length - 1)).reverse).1) : Two))) (Pr.ex (Value.pointer (some ⟨b18, 0, none⟩)))), (115, Pr.ifb (!decide (((root (l.take (half l.length)), root (l.drop (half l.length))) : Two) = ((z, (up (l.length - (half l.length)) (i - (half l.length)) leaf (p.take (p.length - 1)).reverse).1) : Two))) (Pr.ex (Dg.val (z)))), (116, Pr.ifb (!decide (((root (l.take (half l.length)), root (l.drop (half l.length))) : Two) = ((z, (up (l.length - (half l.length)) (i - (half l.length)) leaf (p.take (p.length - 1)).reverse).1) : Two))) (Pr.ex (Value.pointer (some ⟨b18, 4, none⟩)))), (117, Pr.ifb (!decide (((root (l.take (half l.length)), root (l.drop (half l.length))) : Two) = ((z, (up (l.length - (half l.length)) (i - (half l.length)) leaf (p.take (p.length - 1)).reverse).1) : Two))) (Pr.ex (Dg.val ((up (l.length - (half l.length)) (i - (half l.length)) leaf (p.take (p.length - 1)).reverse).1)))), (118, Pr.ifb (!decide (((root (l.take (half l.length)), root (l.drop (half l.length))) : Two) = ((z, (up (l.length - (half l.length)) (i - (half l.length)) leaf (p.take (p.length - 1)).reverse).1) : Two))) (Pr.ex (Dg.val (pair z ((up (l.length - (half l.length)) (i - (half l.length)) leaf (p.take (p.length - 1)).reverse).1))))), (119, Pr.ifb (!decide (((root (l.take (half l.length)), root (l.drop (half l.length))) : Two) = ((z, (up (l.length - (half l.length)) (i - (half l.length)) leaf (p.take (p.length - 1)).reverse).1) : Two))) (Pr.ex (Value.bool (decide (pair (root (l.take (half l.length))) (root (l.drop (half l.length))) = pair z ((up (l.length - (half l.length)) (i - (half l.length)) leaf (p.take (p.length - 1)).reverse).1)))))), (120, Pr.ex (Value.bool ((!decide (((root (l.take (half l.length)), root (l.drop (half l.length))) : Two) = ((z, (up (l.length - (half l.length)) (i - (half l.length)) leaf (p.take (p.length - 1)).reverse).1) : Two))) && (decide (pair (root (l.take (half l.length))) (root (l.drop (half l.length))) = pair z ((up (l.length - (half l.length)) (i - (half l.length)) leaf (p.take (p.length - 1)).reverse).1)))))), (121, Pr.ex (Value.bool ((!decide (((root (l.take (half l.length)), root (l.drop (half l.length))) : Two) = ((z, (up (l.length - (half l.length)) (i - (half l.length)) leaf (p.take (p.length - 1)).reverse).1) : Two))) && (decide (pair (root (l.take (half l.length))) (root (l.drop (half l.length))) = pair z ((up (l.length - (half l.length)) (i - (half l.length)) leaf (p.take (p.length - 1)).reverse).1)))))), (122, Pr.ifb (!((!decide (((root (l.take (half l.length)), root (l.drop (half l.length))) : Two) = ((z, (up (l.length - (half l.length)) (i - (half l.length)) leaf (p.take (p.length - 1)).reverse).1) : Two))) && (decide (pair (root (l.take (half l.length))) (root (l.drop (half l.length))) = pair z ((up (l.length - (half l.length)) (i - (half l.length)) leaf (p.take (p.length - 1)).reverse).1))))) (Pr.ex (x1))), (123, Pr.ifb (!((!decide (((root (l.take (half l.length)), root (l.drop (half l.length))) : Two) = ((z, (up (l.length - (half l.length)) (i - (half l.length)) leaf (p.take (p.length - 1)).reverse).1) : Two))) && (decide (pair (root (l.take (half l.length))) (root (l.drop (half l.length))) = pair z ((up (l.length - (half l.length)) (i - (half l.length)) leaf (p.take (p.length - 1)).reverse).1))))) (Pr.ex (i64 ((half l.length : Nat) : Int)))), (124, Pr.ifb (!((!decide (((root (l.take (half l.length)), root (l.drop (half l.length))) : Two) = ((z, (up (l.length - (half l.length)) (i - (half l.length)) leaf (p.take (p.length - 1)).reverse).1) : Two))) && (decide (pair (root (l.take (half l.length))) (root (l.drop (half l.length))) = pair z ((up (l.length - (half l.length)) (i - (half l.length)) leaf (p.take (p.length - 1)).reverse).1))))) (Pr.sl' DG 0 (w0.heap.size + 1) (l.drop (half l.length)))), (125, Pr.ifb (!((!decide (((root (l.take (half l.length)), root (l.drop (half l.length))) : Two) = ((z, (up (l.length - (half l.length)) (i - (half l.length)) leaf (p.take (p.length - 1)).reverse).1) : Two))) && (decide (pair (root (l.take (half l.length))) (root (l.drop (half l.length))) = pair z ((up (l.length - (half l.length)) (i - (half l.length)) leaf (p.take (p.length - 1)).reverse).1))))) (Pr.ex (i64 ((i : Nat) : Int)))), (126, Pr.ifb (!((!decide (((root (l.take (half l.length)), root (l.drop (half l.length))) : Two) = ((z, (up (l.length - (half l.length)) (i - (half l.length)) leaf (p.take (p.length - 1)).reverse).1) : Two))) && (decide (pair (root (l.take (half l.length))) (root (l.drop (half l.length))) = pair z ((up (l.length - (half l.length)) (i - (half l.length)) leaf (p.take (p.length - 1)).reverse).1))))) (Pr.ex (i64 ((half l.length : Nat) : Int)))), (127, Pr.ifb (!((!decide (((root (l.take (half l.length)), root (l.drop (half l.length))) : Two) = ((z, (up (l.length - (half l.length)) (i - (half l.length)) leaf (p.take (p.length - 1)).reverse).1) : Two))) && (decide (pair (root (l.take (half l.length))) (root (l.drop (half l.length))) = pair z ((up (l.length - (half l.length)) (i - (half l.length)) leaf (p.take (p.length - 1)).reverse).1))))) (Pr.ex (i64 ((i - (half l.length) : Nat) : Int)))), (128, Pr.ifb (!((!decide (((root (l.take (half l.length)), root (l.drop (half l.length))) : Two) = ((z, (up (l.length - (half l.length)) (i - (half l.length)) leaf (p.take (p.length - 1)).reverse).1) : Two))) && (decide (pair (root (l.take (half l.length))) (root (l.drop (half l.length))) = pair z ((up (l.length - (half l.length)) (i - (half l.length)) leaf (p.take (p.length - 1)).reverse).1))))) (Pr.ex (Dg.val (leaf)))), (129, Pr.ifb (!((!decide (((root (l.take (half l.length)), root (l.drop (half l.length))) : Two) = ((z, (up (l.length - (half l.length)) (i - (half l.length)) leaf (p.take (p.length - 1)).reverse).1) : Two))) && (decide (pair (root (l.take (half l.length))) (root (l.drop (half l.length))) = pair z ((up (l.length - (half l.length)) (i - (half l.length)) leaf (p.take (p.length - 1)).reverse).1))))) (Pr.ex (x11))), (130, Pr.ifb (!((!decide (((root (l.take (half l.length)), root (l.drop (half l.length))) : Two) = ((z, (up (l.length - (half l.length)) (i - (half l.length)) leaf (p.take (p.length - 1)).reverse).1) : Two))) && (decide (pair (root (l.take (half l.length))) (root (l.drop (half l.length))) = pair z ((up (l.length - (half l.length)) (i - (half l.length)) leaf (p.take (p.length - 1)).reverse).1))))) (Pr.ex (Value.bool (fooled (l.drop (half l.length)) (i - (half l.length)) leaf (p.take (p.length - 1)).reverse)))), (131, Pr.ex (Value.bool (((!decide (((root (l.take (half l.length)), root (l.drop (half l.length))) : Two) = ((z, (up (l.length - (half l.length)) (i - (half l.length)) leaf (p.take (p.length - 1)).reverse).1) : Two))) && (decide (pair (root (l.take (half l.length))) (root (l.drop (half l.length))) = pair z ((up (l.length - (half l.length)) (i - (half l.length)) leaf (p.take (p.length - 1)).reverse).1)))) || (fooled (l.drop (half l.length)) (i - (half l.length)) leaf (p.take (p.length - 1)).reverse)))), (8, Pr.ex (Value.bool (((!decide (((root (l.take (half l.length)), root (l.drop (half l.length))) : Two) = ((z, (up (l.length - (half l.length)) (i - (half l.length)) leaf (p.take (p.length - 1)).reverse).1) : Two))) && (decide (pair (root (l.take (half l.length))) (root (l.drop (half l.length))) = pair z ((up (l.length - (half l.length)) (i - (half l.length)) leaf (p.take (p.length - 1)).reverse).1)))) || (fooled (l.drop (half l.length)) (i - (half l.length)) leaf (p.take (p.length - 1)).reverse))))] 28 mixed hN_20 hD_20 (by kernel_rfl) (by kernel_rfl) (by kernel_rfl) ?_ ?_
    · refine Asks.cons ?_ (Asks.cons ?_ (Asks.cons ?_ (Asks.cons ?_ (Asks.cons ?_ (Asks.cons ?_ (Asks.cons ?_ (Asks.cons ?_ (Asks.cons ?_ (Asks.cons ?_ (Asks.cons ?_ (Asks.cons ?_ (Asks.cons ?_ (Asks.cons ?_ (Asks.cons ?_ (Asks.cons ?_ (Asks.cons ?_ (Asks.cons ?_ (Asks.cons ?_ (Asks.cons ?_ (Asks.cons ?_ (Asks.cons ?_ (Asks.cons ?_ (Asks.cons ?_ (Asks.cons ?_ (Asks.cons ?_ (Asks.cons ?_ (Asks.cons ?_ (Asks.zero _))))))))))))))))))))))))))))
      · refine Ask.plain rfl rfl ?_
        intro aq wq hNq hO hR hT
        replace hR := (Ext.drew _).trans hR
        exact does_loadD (o := 0) (n := 8) (mid := [w32 (root (l.take (half l.length))).a, w32 (root (l.take (half l.length))).b, w32 (root (l.take (half l.length))).c, w32 (root (l.take (half l.length))).d, w32 (root (l.drop (half l.length))).a, w32 (root (l.drop (half l.length))).b, w32 (root (l.drop (half l.length))).c, w32 (root (l.drop (half l.length))).d]) ((hO 12 rfl).trans s12_20) (hbb12_21.ext' hR) rfl rfl (Nat.le_of_ble_eq_true rfl) row_32 rfl ⟨Ext.refl _, rfl⟩
      · refine Ask.plain rfl rfl ?_
        intro aq wq hNq hO hR hT
        replace hR := (Ext.drew _).trans hR
        exact does_loadD (o := 0) (n := 8) (mid := [w32 (z).a, w32 (z).b, w32 (z).c, w32 (z).d, w32 ((up (l.length - (half l.length)) (i - (half l.length)) leaf (p.take (p.length - 1)).reverse).1).a, w32 ((up (l.length - (half l.length)) (i - (half l.length)) leaf (p.take (p.length - 1)).reverse).1).b, w32 ((up (l.length - (half l.length)) (i - (half l.length)) leaf (p.take (p.length - 1)).reverse).1).c, w32 ((up (l.length - (half l.length)) (i - (half l.length)) leaf (p.take (p.length - 1)).reverse).1).d]) ((hO 18 rfl).trans s18_20) (hbb18_21.ext' hR) rfl rfl (Nat.le_of_ble_eq_true rfl) row_32 rfl ⟨Ext.refl _, rfl⟩
      · refine Ask.plain rfl rfl ?_
        intro aq wq hNq hO hR hT
        replace hR := (Ext.drew _).trans hR
        exact does_neT (a := ((root (l.take (half l.length)), root (l.drop (half l.length))) : Two)) (b := ((z, (up (l.length - (half l.length)) (i - (half l.length)) leaf (p.take (p.length - 1)).reverse).1) : Two)) eq_32 (hT 105 rfl rfl) (hT 106 rfl rfl) ⟨Ext.refl _, rfl⟩
      · refine Ask.plain rfl rfl ?_
        intro aq wq hNq hO hR hT
        replace hR := (Ext.drew _).trans hR
        exact does_move (V := Value.bool (!decide (((root (l.take (half l.length)), root (l.drop (half l.length))) : Two) = ((z, (up (l.length - (half l.length)) (i - (half l.length)) leaf (p.take (p.length - 1)).reverse).1) : Two)))) (hT 107 rfl rfl) ⟨Ext.refl _, rfl⟩
      · refine Ask.guarded (B := !decide (((root (l.take (half l.length)), root (l.drop (half l.length))) : Two) = ((z, (up (l.length - (half l.length)) (i - (half l.length)) leaf (p.take (p.length - 1)).reverse).1) : Two))) (want := true) (t := 108) rfl rfl rfl rfl (by decide) (fun aq wq hO hR hT => hT 108 rfl rfl) (fun hG aq wq hNq hO hR hT => ?_) (fun hno _ => fun hc => absurd hc hno)
        replace hR := (Ext.drew _).trans hR
        exact does_indexArr (k := .i64) (i := 0) (o' := 0) arr_32 ((hO 12 rfl).trans s12_20) rfl (by decide) (by decide) rfl ⟨Ext.refl _, fun _ => rfl⟩
      · refine Ask.guarded (B := !decide (((root (l.take (half l.length)), root (l.drop (half l.length))) : Two) = ((z, (up (l.length - (half l.length)) (i - (half l.length)) leaf (p.take (p.length - 1)).reverse).1) : Two))) (want := true) (t := 108) rfl rfl rfl rfl (by decide) (fun aq wq hO hR hT => hT 108 rfl rfl) (fun hG aq wq hNq hO hR hT => ?_) (fun hno _ => fun hc => absurd hc hno)
        replace hR := (Ext.drew _).trans hR
        exact does_loadD (o := 0) (n := 4) (mid := [w32 (root (l.take (half l.length))).a, w32 (root (l.take (half l.length))).b, w32 (root (l.take (half l.length))).c, w32 (root (l.take (half l.length))).d]) (hT 109 rfl rfl hG) (hbb12_21.ext' hR) rfl rfl (Nat.le_of_ble_eq_true rfl) row_24 rfl ⟨Ext.refl _, fun _ => rfl⟩
      · refine Ask.guarded (B := !decide (((root (l.take (half l.length)), root (l.drop (half l.length))) : Two) = ((z, (up (l.length - (half l.length)) (i - (half l.length)) leaf (p.take (p.length - 1)).reverse).1) : Two))) (want := true) (t := 108) rfl rfl rfl rfl (by decide) (fun aq wq hO hR hT => hT 108 rfl rfl) (fun hG aq wq hNq hO hR hT => ?_) (fun hno _ => fun hc => absurd hc hno)
        replace hR := (Ext.drew _).trans hR
        exact does_indexArr (k := .i64) (i := 1) (o' := 4) arr_32 ((hO 12 rfl).trans s12_20) rfl (by decide) (by decide) rfl ⟨Ext.refl _, fun _ => rfl⟩
      · refine Ask.guarded (B := !decide (((root (l.take (half l.length)), root (l.drop (half l.length))) : Two) = ((z, (up (l.length - (half l.length)) (i - (half l.length)) leaf (p.take (p.length - 1)).reverse).1) : Two))) (want := true) (t := 108) rfl rfl rfl rfl (by decide) (fun aq wq hO hR hT => hT 108 rfl rfl) (fun hG aq wq hNq hO hR hT => ?_) (fun hno _ => fun hc => absurd hc hno)
        replace hR := (Ext.drew _).trans hR
        exact does_loadD (o := 4) (n := 4) (mid := [w32 (root (l.drop (half l.length))).a, w32 (root (l.drop (half l.length))).b, w32 (root (l.drop (half l.length))).c, w32 (root (l.drop (half l.length))).d]) (hT 111 rfl rfl hG) (hbb12_21.ext' hR) rfl rfl (Nat.le_of_ble_eq_true rfl) row_24 rfl ⟨Ext.refl _, fun _ => rfl⟩
      · refine Ask.guarded (B := !decide (((root (l.take (half l.length)), root (l.drop (half l.length))) : Two) = ((z, (up (l.length - (half l.length)) (i - (half l.length)) leaf (p.take (p.length - 1)).reverse).1) : Two))) (want := true) (t := 108) rfl rfl rfl rfl (by decide) (fun aq wq hO hR hT => hT 108 rfl rfl) (fun hG aq wq hNq hO hR hT => ?_) (fun hno _ => fun hc => absurd hc hno)
        replace hR := (Ext.drew _).trans hR
        exact does_ret (vs := #[Dg.val (root (l.take (half l.length))), Dg.val (root (l.drop (half l.length)))]) call_17 (args2 (hT 110 rfl rfl hG) (hT 112 rfl rfl hG)) rfl ((pairR (root (l.take (half l.length))) (root (l.drop (half l.length))) wq).mono fun v w2 h => ⟨h.2, fun _ => h.1⟩)
      · refine Ask.guarded (B := !decide (((root (l.take (half l.length)), root (l.drop (half l.length))) : Two) = ((z, (up (l.length - (half l.length)) (i - (half l.length)) leaf (p.take (p.length - 1)).reverse).1) : Two))) (want := true) (t := 108) rfl rfl rfl rfl (by decide) (fun aq wq hO hR hT => hT 108 rfl rfl) (fun hG aq wq hNq hO hR hT => ?_) (fun hno _ => fun hc => absurd hc hno)
        replace hR := (Ext.drew _).trans hR
        exact does_indexArr (k := .i64) (i := 0) (o' := 0) arr_32 ((hO 18 rfl).trans s18_20) rfl (by decide) (by decide) rfl ⟨Ext.refl _, fun _ => rfl⟩
      · refine Ask.guarded (B := !decide (((root (l.take (half l.length)), root (l.drop (half l.length))) : Two) = ((z, (up (l.length - (half l.length)) (i - (half l.length)) leaf (p.take (p.length - 1)).reverse).1) : Two))) (want := true) (t := 108) rfl rfl rfl rfl (by decide) (fun aq wq hO hR hT => hT 108 rfl rfl) (fun hG aq wq hNq hO hR hT => ?_) (fun hno _ => fun hc => absurd hc hno)
        replace hR := (Ext.drew _).trans hR
        exact does_loadD (o := 0) (n := 4) (mid := [w32 (z).a, w32 (z).b, w32 (z).c, w32 (z).d]) (hT 114 rfl rfl hG) (hbb18_21.ext' hR) rfl rfl (Nat.le_of_ble_eq_true rfl) row_24 rfl ⟨Ext.refl _, fun _ => rfl⟩
      · refine Ask.guarded (B := !decide (((root (l.take (half l.length)), root (l.drop (half l.length))) : Two) = ((z, (up (l.length - (half l.length)) (i - (half l.length)) leaf (p.take (p.length - 1)).reverse).1) : Two))) (want := true) (t := 108) rfl rfl rfl rfl (by decide) (fun aq wq hO hR hT => hT 108 rfl rfl) (fun hG aq wq hNq hO hR hT => ?_) (fun hno _ => fun hc => absurd hc hno)
        replace hR := (Ext.drew _).trans hR
        exact does_indexArr (k := .i64) (i := 1) (o' := 4) arr_32 ((hO 18 rfl).trans s18_20) rfl (by decide) (by decide) rfl ⟨Ext.refl _, fun _ => rfl⟩
      · refine Ask.guarded (B := !decide (((root (l.take (half l.length)), root (l.drop (half l.length))) : Two) = ((z, (up (l.length - (half l.length)) (i - (half l.length)) leaf (p.take (p.length - 1)).reverse).1) : Two))) (want := true) (t := 108) rfl rfl rfl rfl (by decide) (fun aq wq hO hR hT => hT 108 rfl rfl) (fun hG aq wq hNq hO hR hT => ?_) (fun hno _ => fun hc => absurd hc hno)
        replace hR := (Ext.drew _).trans hR
        exact does_loadD (o := 4) (n := 4) (mid := [w32 ((up (l.length - (half l.length)) (i - (half l.length)) leaf (p.take (p.length - 1)).reverse).1).a, w32 ((up (l.length - (half l.length)) (i - (half l.length)) leaf (p.take (p.length - 1)).reverse).1).b, w32 ((up (l.length - (half l.length)) (i - (half l.length)) leaf (p.take (p.length - 1)).reverse).1).c, w32 ((up (l.length - (half l.length)) (i - (half l.length)) leaf (p.take (p.length - 1)).reverse).1).d]) (hT 116 rfl rfl hG) (hbb18_21.ext' hR) rfl rfl (Nat.le_of_ble_eq_true rfl) row_24 rfl ⟨Ext.refl _, fun _ => rfl⟩
      · refine Ask.guarded (B := !decide (((root (l.take (half l.length)), root (l.drop (half l.length))) : Two) = ((z, (up (l.length - (half l.length)) (i - (half l.length)) leaf (p.take (p.length - 1)).reverse).1) : Two))) (want := true) (t := 108) rfl rfl rfl rfl (by decide) (fun aq wq hO hR hT => hT 108 rfl rfl) (fun hG aq wq hNq hO hR hT => ?_) (fun hno _ => fun hc => absurd hc hno)
        replace hR := (Ext.drew _).trans hR
        exact does_ret (vs := #[Dg.val (z), Dg.val ((up (l.length - (half l.length)) (i - (half l.length)) leaf (p.take (p.length - 1)).reverse).1)]) call_17 (args2 (hT 115 rfl rfl hG) (hT 117 rfl rfl hG)) rfl ((pairR (z) ((up (l.length - (half l.length)) (i - (half l.length)) leaf (p.take (p.length - 1)).reverse).1) wq).mono fun v w2 h => ⟨h.2, fun _ => h.1⟩)
      · refine Ask.guarded (B := !decide (((root (l.take (half l.length)), root (l.drop (half l.length))) : Two) = ((z, (up (l.length - (half l.length)) (i - (half l.length)) leaf (p.take (p.length - 1)).reverse).1) : Two))) (want := true) (t := 108) rfl rfl rfl rfl (by decide) (fun aq wq hO hR hT => hT 108 rfl rfl) (fun hG aq wq hNq hO hR hT => ?_) (fun hno _ => fun hc => absurd hc hno)
        replace hR := (Ext.drew _).trans hR
        exact does_eqT (a := pair (root (l.take (half l.length))) (root (l.drop (half l.length)))) (b := pair z ((up (l.length - (half l.length)) (i - (half l.length)) leaf (p.take (p.length - 1)).reverse).1)) eq_24 (hT 113 rfl rfl hG) (hT 118 rfl rfl hG) ⟨Ext.refl _, fun _ => rfl⟩
      · refine Ask.plain rfl rfl ?_
        intro aq wq hNq hO hR hT
        replace hR := (Ext.drew _).trans hR
        exact does_and (B := !decide (((root (l.take (half l.length)), root (l.drop (half l.length))) : Two) = ((z, (up (l.length - (half l.length)) (i - (half l.length)) leaf (p.take (p.length - 1)).reverse).1) : Two))) (X := decide (pair (root (l.take (half l.length))) (root (l.drop (half l.length))) = pair z ((up (l.length - (half l.length)) (i - (half l.length)) leaf (p.take (p.length - 1)).reverse).1))) (hT 108 rfl rfl) (fun hB => (hT 119 rfl rfl hB)) rfl ⟨Ext.refl _, rfl⟩
      · refine Ask.plain rfl rfl ?_
        intro aq wq hNq hO hR hT
        replace hR := (Ext.drew _).trans hR
        exact does_move (V := Value.bool ((!decide (((root (l.take (half l.length)), root (l.drop (half l.length))) : Two) = ((z, (up (l.length - (half l.length)) (i - (half l.length)) leaf (p.take (p.length - 1)).reverse).1) : Two))) && (decide (pair (root (l.take (half l.length))) (root (l.drop (half l.length))) = pair z ((up (l.length - (half l.length)) (i - (half l.length)) leaf (p.take (p.length - 1)).reverse).1))))) (hT 120 rfl rfl) ⟨Ext.refl _, rfl⟩
      · refine Ask.guarded (B := (!decide (((root (l.take (half l.length)), root (l.drop (half l.length))) : Two) = ((z, (up (l.length - (half l.length)) (i - (half l.length)) leaf (p.take (p.length - 1)).reverse).1) : Two))) && (decide (pair (root (l.take (half l.length))) (root (l.drop (half l.length))) = pair z ((up (l.length - (half l.length)) (i - (half l.length)) leaf (p.take (p.length - 1)).reverse).1)))) (want := false) (t := 121) rfl rfl rfl rfl (by decide) (fun aq wq hO hR hT => hT 121 rfl rfl) (fun hG aq wq hNq hO hR hT => ?_) (fun hno _ => fun hc => absurd (bn hc) hno)
        replace hG := nb hG
        replace hR := (Ext.drew _).trans hR
        exact does_move (V := x1) ((hO 0 rfl).trans s0_20) ⟨Ext.refl _, fun _ => rfl⟩
      · refine Ask.guarded (B := (!decide (((root (l.take (half l.length)), root (l.drop (half l.length))) : Two) = ((z, (up (l.length - (half l.length)) (i - (half l.length)) leaf (p.take (p.length - 1)).reverse).1) : Two))) && (decide (pair (root (l.take (half l.length))) (root (l.drop (half l.length))) = pair z ((up (l.length - (half l.length)) (i - (half l.length)) leaf (p.take (p.length - 1)).reverse).1)))) (want := false) (t := 121) rfl rfl rfl rfl (by decide) (fun aq wq hO hR hT => hT 121 rfl rfl) (fun hG aq wq hNq hO hR hT => ?_) (fun hno _ => fun hc => absurd (bn hc) hno)
        replace hG := nb hG
        replace hR := (Ext.drew _).trans hR
        exact does_move (V := i64 ((half l.length : Nat) : Int)) ((hO 9 rfl).trans s9_20) ⟨Ext.refl _, fun _ => rfl⟩
      · refine Ask.guarded (B := (!decide (((root (l.take (half l.length)), root (l.drop (half l.length))) : Two) = ((z, (up (l.length - (half l.length)) (i - (half l.length)) leaf (p.take (p.length - 1)).reverse).1) : Two))) && (decide (pair (root (l.take (half l.length))) (root (l.drop (half l.length))) = pair z ((up (l.length - (half l.length)) (i - (half l.length)) leaf (p.take (p.length - 1)).reverse).1)))) (want := false) (t := 121) rfl rfl rfl rfl (by decide) (fun aq wq hO hR hT => hT 121 rfl rfl) (fun hG aq wq hNq hO hR hT => ?_) (fun hno _ => fun hc => absurd (bn hc) hno)
        replace hG := nb hG
        replace hR := (Ext.drew _).trans hR
        exact does_sliceLo (T := DG) (xs := l) (k := ((half l.length : Nat) : Int)) sli_27 rfl (SlT.at (hT 122 rfl rfl hG) (hsx1_21.ext' hR)) (hT 123 rfl rfl hG) (by omega) (by omega) (fun v h => ⟨Ext.refl _, fun _ => h⟩)
      · refine Ask.guarded (B := (!decide (((root (l.take (half l.length)), root (l.drop (half l.length))) : Two) = ((z, (up (l.length - (half l.length)) (i - (half l.length)) leaf (p.take (p.length - 1)).reverse).1) : Two))) && (decide (pair (root (l.take (half l.length))) (root (l.drop (half l.length))) = pair z ((up (l.length - (half l.length)) (i - (half l.length)) leaf (p.take (p.length - 1)).reverse).1)))) (want := false) (t := 121) rfl rfl rfl rfl (by decide) (fun aq wq hO hR hT => hT 121 rfl rfl) (fun hG aq wq hNq hO hR hT => ?_) (fun hno _ => fun hc => absurd (bn hc) hno)
        replace hG := nb hG
        replace hR := (Ext.drew _).trans hR
        exact does_move (V := i64 ((i : Nat) : Int)) ((hO 1 rfl).trans s1_20) ⟨Ext.refl _, fun _ => rfl⟩
      · refine Ask.guarded (B := (!decide (((root (l.take (half l.length)), root (l.drop (half l.length))) : Two) = ((z, (up (l.length - (half l.length)) (i - (half l.length)) leaf (p.take (p.length - 1)).reverse).1) : Two))) && (decide (pair (root (l.take (half l.length))) (root (l.drop (half l.length))) = pair z ((up (l.length - (half l.length)) (i - (half l.length)) leaf (p.take (p.length - 1)).reverse).1)))) (want := false) (t := 121) rfl rfl rfl rfl (by decide) (fun aq wq hO hR hT => hT 121 rfl rfl) (fun hG aq wq hNq hO hR hT => ?_) (fun hno _ => fun hc => absurd (bn hc) hno)
        replace hG := nb hG
        replace hR := (Ext.drew _).trans hR
        exact does_move (V := i64 ((half l.length : Nat) : Int)) ((hO 9 rfl).trans s9_20) ⟨Ext.refl _, fun _ => rfl⟩
      · refine Ask.guarded (B := (!decide (((root (l.take (half l.length)), root (l.drop (half l.length))) : Two) = ((z, (up (l.length - (half l.length)) (i - (half l.length)) leaf (p.take (p.length - 1)).reverse).1) : Two))) && (decide (pair (root (l.take (half l.length))) (root (l.drop (half l.length))) = pair z ((up (l.length - (half l.length)) (i - (half l.length)) leaf (p.take (p.length - 1)).reverse).1)))) (want := false) (t := 121) rfl rfl rfl rfl (by decide) (fun aq wq hO hR hT => hT 121 rfl rfl) (fun hG aq wq hNq hO hR hT => ?_) (fun hno _ => fun hc => absurd (bn hc) hno)
        replace hG := nb hG
        replace hR := (Ext.drew _).trans hR
        exact does_sub (a := ((i : Nat) : Int)) (b := ((half l.length : Nat) : Int)) (r := ((i - (half l.length) : Nat) : Int)) (hT 125 rfl rfl hG) (hT 126 rfl rfl hG) (by omega) (by omega) (by omega) ⟨Ext.refl _, fun _ => rfl⟩
      · refine Ask.guarded (B := (!decide (((root (l.take (half l.length)), root (l.drop (half l.length))) : Two) = ((z, (up (l.length - (half l.length)) (i - (half l.length)) leaf (p.take (p.length - 1)).reverse).1) : Two))) && (decide (pair (root (l.take (half l.length))) (root (l.drop (half l.length))) = pair z ((up (l.length - (half l.length)) (i - (half l.length)) leaf (p.take (p.length - 1)).reverse).1)))) (want := false) (t := 121) rfl rfl rfl rfl (by decide) (fun aq wq hO hR hT => hT 121 rfl rfl) (fun hG aq wq hNq hO hR hT => ?_) (fun hno _ => fun hc => absurd (bn hc) hno)
        replace hG := nb hG
        replace hR := (Ext.drew _).trans hR
        exact does_loadD (o := 0) (n := 4) (mid := [w32 (leaf).a, w32 (leaf).b, w32 (leaf).c, w32 (leaf).d]) ((hO 6 rfl).trans s6_20) (hbb6_21.ext' hR) rfl rfl (Nat.le_of_ble_eq_true rfl) row_24 rfl ⟨Ext.refl _, fun _ => rfl⟩
      · refine Ask.guarded (B := (!decide (((root (l.take (half l.length)), root (l.drop (half l.length))) : Two) = ((z, (up (l.length - (half l.length)) (i - (half l.length)) leaf (p.take (p.length - 1)).reverse).1) : Two))) && (decide (pair (root (l.take (half l.length))) (root (l.drop (half l.length))) = pair z ((up (l.length - (half l.length)) (i - (half l.length)) leaf (p.take (p.length - 1)).reverse).1)))) (want := false) (t := 121) rfl rfl rfl rfl (by decide) (fun aq wq hO hR hT => hT 121 rfl rfl) (fun hG aq wq hNq hO hR hT => ?_) (fun hno _ => fun hc => absurd (bn hc) hno)
        replace hG := nb hG
        replace hR := (Ext.drew _).trans hR
        exact does_move (V := x11) ((hO 11 rfl).trans s11_20) ⟨Ext.refl _, fun _ => rfl⟩
      · refine Ask.guarded (B := (!decide (((root (l.take (half l.length)), root (l.drop (half l.length))) : Two) = ((z, (up (l.length - (half l.length)) (i - (half l.length)) leaf (p.take (p.length - 1)).reverse).1) : Two))) && (decide (pair (root (l.take (half l.length))) (root (l.drop (half l.length))) = pair z ((up (l.length - (half l.length)) (i - (half l.length)) leaf (p.take (p.length - 1)).reverse).1)))) (want := false) (t := 121) rfl rfl rfl rfl (by decide) (fun aq wq hO hR hT => hT 121 rfl rfl) (fun hG aq wq hNq hO hR hT => ?_) (fun hno _ => fun hc => absurd (bn hc) hno)
        replace hG := nb hG
        replace hR := (Ext.drew _).trans hR
        exact does_ret (vs := #[get aq 124, i64 ((i - (half l.length) : Nat) : Int), Dg.val (leaf), x11]) call_22 (args4 rfl (hT 127 rfl rfl hG) (hT 128 rfl rfl hG) (hT 129 rfl rfl hG)) rfl ((ih _ (by first | omega | (simp only [List.length_take]; omega) | (simp only [List.length_drop]; omega)) (l.drop (half l.length)) (i - (half l.length)) leaf (p.take (p.length - 1)) (get aq 124) (x11) wq ((hT 124 rfl rfl hG).wide (Nat.zero_le _) (.inl rfl)) ((hsx11_21.ext' hR).wide (Nat.zero_le _) (.inl rfl)) (by first | omega | (simp only [List.length_take]; omega) | (simp only [List.length_drop]; omega)) (by first | omega | (simp only [List.length_take]; omega) | (simp only [List.length_drop]; omega)) (by first | omega | (simp only [List.length_take]; omega) | (simp only [List.length_drop]; omega)) rfl).mono fun v w2 h => ⟨h.2, fun _ => h.1⟩)
      · refine Ask.plain rfl rfl ?_
        intro aq wq hNq hO hR hT
        replace hR := (Ext.drew _).trans hR
        exact does_or (B := (!decide (((root (l.take (half l.length)), root (l.drop (half l.length))) : Two) = ((z, (up (l.length - (half l.length)) (i - (half l.length)) leaf (p.take (p.length - 1)).reverse).1) : Two))) && (decide (pair (root (l.take (half l.length))) (root (l.drop (half l.length))) = pair z ((up (l.length - (half l.length)) (i - (half l.length)) leaf (p.take (p.length - 1)).reverse).1)))) (X := fooled (l.drop (half l.length)) (i - (half l.length)) leaf (p.take (p.length - 1)).reverse) (hT 121 rfl rfl) rfl (fun hB => (hT 130 rfl rfl (nb hB))) ⟨Ext.refl _, rfl⟩
      · refine Ask.plain rfl rfl ?_
        intro aq wq hNq hO hR hT
        replace hR := (Ext.drew _).trans hR
        exact does_assign (V := Value.bool (((!decide (((root (l.take (half l.length)), root (l.drop (half l.length))) : Two) = ((z, (up (l.length - (half l.length)) (i - (half l.length)) leaf (p.take (p.length - 1)).reverse).1) : Two))) && (decide (pair (root (l.take (half l.length))) (root (l.drop (half l.length))) = pair z ((up (l.length - (half l.length)) (i - (half l.length)) leaf (p.take (p.length - 1)).reverse).1)))) || (fooled (l.drop (half l.length)) (i - (half l.length)) leaf (p.take (p.length - 1)).reverse))) (hT 131 rfl rfl) ⟨Ext.refl _, rfl⟩
    intro a22 wd22 hN_22 hD_22 hO hR hA hU
    obtain ⟨_, _, _, _, _, _, _, _, _, _, _, _, _, _, _, _, _, _, _, _, _, _, _, _, _, _, _, t8, _⟩ := hA
    have hE_22 := hE_21.trans hR
    have hbb6_22 := hbb6_21.ext' hR
    have hbb10_22 := hbb10_21.ext' hR
    have hbb12_22 := hbb12_21.ext' hR
    have hbb16_22 := hbb16_21.ext' hR
    have hbb18_22 := hbb18_21.ext' hR
    have hsx1_22 := hsx1_21.ext' hR
    have hsx2_22 := hsx2_21.ext' hR
    have hsx11_22 := hsx11_21.ext' hR
    have s8_22 : get a22 8 = Value.bool (((!decide (((root (l.take (half l.length)), root (l.drop (half l.length))) : Two) = ((z, (up (l.length - (half l.length)) (i - (half l.length)) leaf (p.take (p.length - 1)).reverse).1) : Two))) && (decide (pair (root (l.take (half l.length))) (root (l.drop (half l.length))) = pair z ((up (l.length - (half l.length)) (i - (half l.length)) leaf (p.take (p.length - 1)).reverse).1)))) || (fooled (l.drop (half l.length)) (i - (half l.length)) leaf (p.take (p.length - 1)).reverse)) := t8
    clear hE_21 hN_20 hD_20 s0_20 s1_20 s6_20 s9_20 s11_20 s12_20 s18_20 s104_20 hbb6_21 hbb10_21 hbb12_21 hbb16_21 hbb18_21 hsx1_21 hsx2_21 hsx11_21
    refine tail_nil ?_
    refine wp_ret ?_
    refine res_one (V := Value.bool (((!decide (((root (l.take (half l.length)), root (l.drop (half l.length))) : Two) = ((z, (up (l.length - (half l.length)) (i - (half l.length)) leaf (p.take (p.length - 1)).reverse).1) : Two))) && (decide (pair (root (l.take (half l.length))) (root (l.drop (half l.length))) = pair z ((up (l.length - (half l.length)) (i - (half l.length)) leaf (p.take (p.length - 1)).reverse).1)))) || (fooled (l.drop (half l.length)) (i - (half l.length)) leaf (p.take (p.length - 1)).reverse))) rfl hD_22 s8_22 ?_
    have hr := rev_of hz (by omega)
    exact ⟨by show Value.bool _ = Value.bool _; rw [hr, fooled_hi h2 hge, decide_not], hE_22⟩
theorem fooled_ (l : List Dg) (i : Nat) (leaf : Dg) (p : List Dg) (x1 x2 : Value) (w0 : World) (hx1 : SlT DG 0 0 l x1 w0) (hx2 : SlT DG 0 0 p x2 w0) (hi : i < l.length) (hn : l.length ≤ 100000) (hpn : p.length ≤ 100000) :
    Gives Tryd.prog 22 #[x1, i64 ((i : Nat) : Int), Dg.val (leaf), x2] w0 (Pr.ex (Value.bool (fooled l i leaf p.reverse))) := fooled__r _ l i leaf p x1 x2 w0 hx1 hx2 hi hn hpn rfl

theorem fooledI (l : List Dg) (i : Int) (leaf : Dg) (p : List Dg) (x1 x2 : Value) (w0 : World) (hx1 : SlT DG 0 0 l x1 w0) (hx2 : SlT DG 0 0 p x2 w0) (hi : 0 ≤ i ∧ i < (l.length : Int)) (hn : l.length ≤ 100000) (hpn : p.length ≤ 100000) :
    Gives Tryd.prog 22 #[x1, i64 (i), Dg.val (leaf), x2] w0 (Pr.ex (Value.bool (fooled l i.toNat leaf p.reverse))) := by
  obtain ⟨j, rfl⟩ : ∃ j : Nat, i = j := ⟨i.toNat, by omega⟩
  exact fooled_ l j leaf p x1 x2 w0 hx1 hx2 (by omega) hn hpn

end Go.Proofs.YtncamojfjhbanaaDoor
