/- The walks of functions of the program: printed. -/
import Derived.Test.YtncamojfjhbanaaDoorK16
import Derived.Test.YtncamojfjhbanaaDoorG3
import Derived.Test.YtncamojfjhbanaaDoorG7
import Derived.Test.YtncamojfjhbanaaDoorF0
set_option maxRecDepth 100000
namespace Go.Proofs.YtncamojfjhbanaaDoor
open Go Go.RowKit Sk Sd
theorem onR_r : ∀ (N : Nat) (m n : Nat) (whole : Bool) (old : Dg) (l : List Dg) (x1 : Value) (w0 : World) (hx1 : SlT DG 0 0 l x1 w0) (h1 : 1 ≤ m) (hm : m ≤ n) (hnn : n ≤ 100000) (hn : l.length ≤ 100000) (hN : n = N),
    Gives Tryd.prog 43 #[Dg.val (old), i64 ((m : Nat) : Int), i64 ((n : Nat) : Int), Value.bool (whole), x1] w0 (Pr.ex (Value.tuple #[Dg.val (both old m n whole l.reverse).1, Dg.val (both old m n whole l.reverse).2.1, Value.bool (both old m n whole l.reverse).2.2])) := by
  intro N
  induction N using Nat.strongRecOn with
  | _ N ih =>
    intro m n whole old l x1 w0 hx1 h1 hm hnn hn hN
    refine enter (N := 98) Tryd.func43 rfl rfl ?_
    intro a0 hN_0 hD_0 hA
    have s0_0 : get a0 0 = Dg.val (old) := hA 0 _ rfl
    have s1_0 : get a0 1 = i64 ((m : Nat) : Int) := hA 1 _ rfl
    have s2_0 : get a0 2 = i64 ((n : Nat) : Int) := hA 2 _ rfl
    have s3_0 : get a0 3 = Value.bool (whole) := hA 3 _ rfl
    have s4_0 : get a0 4 = x1 := hA 4 _ rfl
    clear hA
    have hE_0 : Ext w0 w0 := Ext.refl w0
    have hsx1_0 := hx1.close
    refine wp_seq ?_
    refine region_lex [5, 10, 11] [(5, Pr.box' w0.heap.size 24 [w32 (old).a, w32 (old).b, w32 (old).c, w32 (old).d]), (10, Pr.box' w0.heap.size 24 [w32 (Dg.zero).a, w32 (Dg.zero).b, w32 (Dg.zero).c, w32 (Dg.zero).d]), (11, Pr.box' w0.heap.size 24 [w32 (Dg.zero).a, w32 (Dg.zero).b, w32 (Dg.zero).c, w32 (Dg.zero).d]), (12, Pr.ex (Value.bool (false)))] 4 hN_0 hD_0 (by kernel_rfl) (by kernel_rfl) ?_ ?_
    · refine Asks.cons ?_ (Asks.cons ?_ (Asks.cons ?_ (Asks.cons ?_ (Asks.zero _))))
      · refine Ask.fresh rfl rfl ?_
        intro aq wq hNq hO hR hT
        exact does_box (V := Dg.val (old)) ((hO 0 rfl).trans s0_0) (fun b w2 he hlo hb => ⟨he, ⟨b, rfl, Nat.le_trans hR.size' hlo, hb⟩, ⟨b, rfl, hlo, hb.lt⟩⟩)
      · refine Ask.fresh rfl rfl ?_
        intro aq wq hNq hO hR hT
        exact does_alloc zero_24 (fun b w2 he hlo hb => ⟨he, ⟨b, rfl, Nat.le_trans hR.size' hlo, hb⟩, ⟨b, rfl, hlo, hb.lt⟩⟩)
      · refine Ask.fresh rfl rfl ?_
        intro aq wq hNq hO hR hT
        exact does_alloc zero_24 (fun b w2 he hlo hb => ⟨he, ⟨b, rfl, Nat.le_trans hR.size' hlo, hb⟩, ⟨b, rfl, hlo, hb.lt⟩⟩)
      · refine Ask.plain rfl rfl ?_
        intro aq wq hNq hO hR hT
        exact does_assign (V := Value.bool (false)) rfl ⟨Ext.refl _, rfl⟩
    intro a1 wd1 hN_1 hD_1 hO hR hA hU
    obtain ⟨t5, t10, t11, _, _⟩ := hA
    have hE_1 := hE_0.trans hR
    have s1_1 := (hO 1 rfl).trans s1_0
    have s2_1 := (hO 2 rfl).trans s2_0
    have s3_1 := (hO 3 rfl).trans s3_0
    have s4_1 := (hO 4 rfl).trans s4_0
    have hsx1_1 := hsx1_0.ext' hR
    obtain ⟨b5, s5_1, lo_b5, hbb5_1⟩ := t5
    have nb_x1_b5 := SlT.old hsx1_0 lo_b5
    have fr_b5 : w0.heap.size ≤ b5 := Nat.le_trans hE_0.size' lo_b5
    obtain ⟨b10, s10_1, lo_b10, hbb10_1⟩ := t10
    have nb_x1_b10 := SlT.old hsx1_0 lo_b10
    have fr_b10 : w0.heap.size ≤ b10 := Nat.le_trans hE_0.size' lo_b10
    obtain ⟨b11, s11_1, lo_b11, hbb11_1⟩ := t11
    have nb_x1_b11 := SlT.old hsx1_0 lo_b11
    have fr_b11 : w0.heap.size ≤ b11 := Nat.le_trans hE_0.size' lo_b11
    obtain ⟨u0, ⟨u1, ⟨u2, _⟩⟩⟩ := hU
    have ne_b5_b10 : b5 ≠ b10 := fun e => u0 10 (by decide) (by rw [s5_1, s10_1, e])
    have ne_b5_b11 : b5 ≠ b11 := fun e => u0 11 (by decide) (by rw [s5_1, s11_1, e])
    have ne_b10_b11 : b10 ≠ b11 := fun e => u1 11 (by decide) (by rw [s10_1, s11_1, e])
    clear hE_0 hN_0 hD_0 s0_0 s1_0 s2_0 s3_0 s4_0 hsx1_0
    refine tail_nil ?_
    refine wp_seq ?_
    refine wp_seq ?_
    refine region_lex [] [(22, Pr.ex (i64 ((m : Nat) : Int))), (23, Pr.ex (i64 ((n : Nat) : Int))), (24, Pr.ex (Value.bool (decide (((m : Nat) : Int) = ((n : Nat) : Int)))))] 3 hN_1 hD_1 (by kernel_rfl) (by kernel_rfl) ?_ ?_
    · refine Asks.cons ?_ (Asks.cons ?_ (Asks.cons ?_ (Asks.zero _)))
      · refine Ask.plain rfl rfl ?_
        intro aq wq hNq hO hR hT
        exact does_move (V := i64 ((m : Nat) : Int)) ((hO 1 rfl).trans s1_1) ⟨Ext.refl _, rfl⟩
      · refine Ask.plain rfl rfl ?_
        intro aq wq hNq hO hR hT
        exact does_move (V := i64 ((n : Nat) : Int)) ((hO 2 rfl).trans s2_1) ⟨Ext.refl _, rfl⟩
      · refine Ask.plain rfl rfl ?_
        intro aq wq hNq hO hR hT
        exact does_eql (a := ((m : Nat) : Int)) (b := ((n : Nat) : Int)) (hT 22 rfl rfl) (hT 23 rfl rfl) ⟨Ext.refl _, rfl⟩
    intro a2 wd2 hN_2 hD_2 hO hR hA hU
    obtain ⟨_, _, t24, _⟩ := hA
    have hE_2 := hE_1.trans hR
    have s1_2 := (hO 1 rfl).trans s1_1
    have s2_2 := (hO 2 rfl).trans s2_1
    have s3_2 := (hO 3 rfl).trans s3_1
    have s4_2 := (hO 4 rfl).trans s4_1
    have s5_2 := (hO 5 rfl).trans s5_1
    have s10_2 := (hO 10 rfl).trans s10_1
    have s11_2 := (hO 11 rfl).trans s11_1
    have hbb5_2 := hbb5_1.ext' hR
    have hbb10_2 := hbb10_1.ext' hR
    have hbb11_2 := hbb11_1.ext' hR
    have hsx1_2 := hsx1_1.ext' hR
    have s24_2 : get a2 24 = Value.bool (decide (((m : Nat) : Int) = ((n : Nat) : Int))) := t24
    clear hE_1 hN_1 hD_1 s1_1 s2_1 s3_1 s4_1 s5_1 s10_1 s11_1 hbb5_1 hbb10_1 hbb11_1 hsx1_1
    refine tail_nil ?_
    refine wp_if (B := decide (((m : Nat) : Int) = ((n : Nat) : Int))) s24_2 (fun hc0 => ?_) (fun hc0 => ?_)
    · -- T 0
      have hc0 := of_decide_eq_true hc0
      have hend : ¬ (2 ≤ n ∧ m ≠ n) := fun h => h.2 (by omega)
      refine wp_seq ?_
      refine wp_seq ?_
      refine region_lex [] [(25, Pr.ex (Value.bool (whole)))] 1 hN_2 hD_2 (by kernel_rfl) (by kernel_rfl) ?_ ?_
      · refine Asks.cons ?_ (Asks.zero _)
        · refine Ask.plain rfl rfl ?_
          intro aq wq hNq hO hR hT
          exact does_move (V := Value.bool (whole)) ((hO 3 rfl).trans s3_2) ⟨Ext.refl _, rfl⟩
      intro a3 wd3 hN_3 hD_3 hO hR hA hU
      obtain ⟨t25, _⟩ := hA
      have hE_3 := hE_2.trans hR
      have s4_3 := (hO 4 rfl).trans s4_2
      have s5_3 := (hO 5 rfl).trans s5_2
      have s10_3 := (hO 10 rfl).trans s10_2
      have s11_3 := (hO 11 rfl).trans s11_2
      have hbb5_3 := hbb5_2.ext' hR
      have hbb10_3 := hbb10_2.ext' hR
      have hbb11_3 := hbb11_2.ext' hR
      have hsx1_3 := hsx1_2.ext' hR
      have s25_3 : get a3 25 = Value.bool (whole) := t25
      clear hE_2 hN_2 hD_2 s1_2 s2_2 s3_2 s4_2 s5_2 s10_2 s11_2 s24_2 hbb5_2 hbb10_2 hbb11_2 hsx1_2
      refine tail_nil ?_
      refine wp_if (B := whole) s25_3 (fun hc1 => ?_) (fun hc1 => ?_)
      · -- T 1
        refine wp_seq ?_
        refine region_late [] [(26, Pr.ex (Dg.val (old))), (27, Pr.ex (Dg.val (old))), (28, Pr.ex (x1)), (29, Pr.ex (i64 ((l.length : Nat) : Int))), (30, Pr.ex (Value.bool (decide (((l.length : Nat) : Int) = ((0 : Nat) : Int)))))] 5 [1, 2, 3, 4] (fun k => k = b10 ∨ k = b11) mixed hN_3 hD_3 (by kernel_rfl) (by kernel_rfl) (by kernel_rfl) (by kernel_rfl) (fun d v c a w h => by cases d <;> exact h) ?_ ?_ ?_
        · refine Asks.cons ?_ (Asks.cons ?_ (Asks.cons ?_ (Asks.cons ?_ (Asks.cons ?_ (Asks.zero _)))))
          · refine Ask.plain rfl rfl ?_
            intro aq wq hNq hO hR hT
            replace hR := (Ext.drew _).trans hR
            exact does_loadD (o := 0) (n := 4) (mid := [w32 (old).a, w32 (old).b, w32 (old).c, w32 (old).d]) ((hO 5 rfl).trans s5_3) (hbb5_3.ext' hR) rfl rfl (Nat.le_of_ble_eq_true rfl) row_24 rfl ⟨Ext.refl _, rfl⟩
          · refine Ask.plain rfl rfl ?_
            intro aq wq hNq hO hR hT
            replace hR := (Ext.drew _).trans hR
            exact does_loadD (o := 0) (n := 4) (mid := [w32 (old).a, w32 (old).b, w32 (old).c, w32 (old).d]) ((hO 5 rfl).trans s5_3) (hbb5_3.ext' hR) rfl rfl (Nat.le_of_ble_eq_true rfl) row_24 rfl ⟨Ext.refl _, rfl⟩
          · refine Ask.plain rfl rfl ?_
            intro aq wq hNq hO hR hT
            replace hR := (Ext.drew _).trans hR
            exact does_move (V := x1) ((hO 4 rfl).trans s4_3) ⟨Ext.refl _, rfl⟩
          · refine Ask.plain rfl rfl ?_
            intro aq wq hNq hO hR hT
            replace hR := (Ext.drew _).trans hR
            exact does_len (T := DG) (xs := l) sli_27 (SlT.at (hT 28 rfl rfl) (hsx1_3.ext' hR)) ⟨Ext.refl _, rfl⟩
          · refine Ask.plain rfl rfl ?_
            intro aq wq hNq hO hR hT
            replace hR := (Ext.drew _).trans hR
            exact does_eql (a := ((l.length : Nat) : Int)) (b := ((0 : Nat) : Int)) (hT 29 rfl rfl) rfl ⟨Ext.refl _, rfl⟩
        · refine LateAsks.cons rfl rfl rfl ?_ (LateAsks.cons rfl rfl rfl ?_ (LateAsks.cons rfl rfl rfl ?_ (LateAsks.cons rfl rfl rfl ?_ LateAsks.nil)))
          · intro aq wq hO hR hT
            have hR0 := hR
            replace hR := (Ext.drew _).trans hR
            exact ⟨_, yl_loadD (o := 0) (n := 4) (mid := [w32 (old).a, w32 (old).b, w32 (old).c, w32 (old).d]) ((hO 5 rfl).trans s5_3) hbb5_3 (fun e => e.elim ne_b5_b10 ne_b5_b11) rfl rfl (Nat.le_of_ble_eq_true rfl) row_24 rfl, rfl⟩
          · intro aq wq hO hR hT
            have hR0 := hR
            replace hR := (Ext.drew _).trans hR
            exact ⟨_, yl_move (V := x1) ((hO 4 rfl).trans s4_3), rfl⟩
          · intro aq wq hO hR hT
            have hR0 := hR
            replace hR := (Ext.drew _).trans hR
            exact ⟨_, yl_len (T := DG) (xs := l) sli_27 (SlT.at (hT 28 rfl rfl) (hsx1_3.ext' hR)), rfl⟩
          · intro aq wq hO hR hT
            have hR0 := hR
            replace hR := (Ext.drew _).trans hR
            exact ⟨_, yl_eql (a := ((l.length : Nat) : Int)) (b := ((0 : Nat) : Int)) (hT 29 rfl rfl) rfl, rfl⟩
        intro wl hwl hwh a4 wd4 hN_4 hD_4 hO hR hA hU
        have hS_4 : ExtE (fun k => k = b10 ∨ k = b11) wl wd4 := hR.toE
        replace hR := hwl.trans hR
        obtain ⟨t26, t27, _, _, t30, _⟩ := hA
        have hE_4 := hE_3.trans hR
        have s10_4 := (hO 10 rfl).trans s10_3
        have s11_4 := (hO 11 rfl).trans s11_3
        have hbb5_4 := hbb5_3.ext' hR
        have hbb10_4 := hbb10_3.ext' hR
        have hbb11_4 := hbb11_3.ext' hR
        have hsx1_4 := hsx1_3.ext' hR
        have s26_4 : get a4 26 = Dg.val (old) := t26
        have s27_4 : get a4 27 = Dg.val (old) := t27
        have s30_4 : get a4 30 = Value.bool (decide (((l.length : Nat) : Int) = ((0 : Nat) : Int))) := t30
        clear hE_3 hN_3 hD_3 s4_3 s5_3 s10_3 s11_3 s25_3 hbb5_3 hbb10_3 hbb11_3 hsx1_3
        refine tailS_none rfl rfl (does_storeD (o := 0) (n := 4) (cs' := [w32 (old).a, w32 (old).b, w32 (old).c, w32 (old).d]) (V := Dg.val (old)) s10_4 s26_4 hbb10_4 (Nat.le_of_ble_eq_true rfl) rfl siz_24 rfl rfl (fun wd5 hX hz hbb10_5 => ⟨hS_4.trans (hX.mono fun k _ e => .inl e), ?_⟩))
        have hS_5 := hS_4.trans (hX.mono (E' := (fun k => k = b10 ∨ k = b11)) fun k _ e => .inl e)
        have hE_5 := hE_4.since hX (fun k e => e ▸ fr_b10)
        have hbb5_5 := hbb5_4.ext hX ne_b5_b10
        have hbb11_5 := hbb11_4.ext hX ne_b10_b11.symm
        have hsx1_5 := SlT.over hsx1_4 hX nb_x1_b10
        clear hX hz hE_4 hbb5_4 hbb10_4 hbb11_4 hsx1_4
        refine tailS_none rfl rfl (does_storeD (o := 0) (n := 4) (cs' := [w32 (old).a, w32 (old).b, w32 (old).c, w32 (old).d]) (V := Dg.val (old)) s11_4 s27_4 hbb11_5 (Nat.le_of_ble_eq_true rfl) rfl siz_24 rfl rfl (fun wd6 hX hz hbb11_6 => ⟨hS_5.trans (hX.mono fun k _ e => .inr e), ?_⟩))
        have hS_6 := hS_5.trans (hX.mono (E' := (fun k => k = b10 ∨ k = b11)) fun k _ e => .inr e)
        have hE_6 := hE_5.since hX (fun k e => e ▸ fr_b11)
        have hbb5_6 := hbb5_5.ext hX ne_b5_b11
        have hbb10_6 := hbb10_5.ext hX ne_b10_b11
        have hsx1_6 := SlT.over hsx1_5 hX nb_x1_b11
        clear hX hz hE_5 hbb5_5 hbb10_5 hbb11_5 hsx1_5
        refine tailS_put rfl rfl hN_4 hD_4 (by decide) (does_assign (V := Value.bool (decide (((l.length : Nat) : Int) = ((0 : Nat) : Int)))) s30_4 (⟨hS_6, fun a7 hN_7 hD_7 hv hO => ?_⟩))
        have s12_7 := hv
        have s10_7 := (hO 10 rfl).trans s10_4
        have s11_7 := (hO 11 rfl).trans s11_4
        clear hO hv hN_4 hD_4 s10_4 s11_4 s26_4 s27_4 s30_4
        refine tailS_nil ?_
        refine wp_ret ?_
        refine res_three (V1 := Dg.val (old)) (V2 := Dg.val (old)) (V3 := Value.bool (decide (((l.length : Nat) : Int) = ((0 : Nat) : Int)))) rfl hD_7 (ResIs.cell s10_7 hbb10_6 row_24 rfl rfl) (ResIs.cell s11_7 hbb11_6 row_24 rfl rfl) s12_7 ?_
        subst hc1
        obtain ⟨e1, e2, e3⟩ := both_is (both_end hend old l.reverse)
        exact ⟨by show Value.tuple _ = Value.tuple _; rw [e1, e2, e3, emptyI], hE_6⟩
      refine wp_skip ?_
      refine wp_seq ?_
      refine wp_seq ?_
      refine region_lex [] [(31, Pr.ex (x1)), (32, Pr.ex (i64 ((l.length : Nat) : Int))), (33, Pr.ex (Value.bool (!decide (((l.length : Nat) : Int) = ((1 : Nat) : Int)))))] 3 hN_3 hD_3 (by kernel_rfl) (by kernel_rfl) ?_ ?_
      · refine Asks.cons ?_ (Asks.cons ?_ (Asks.cons ?_ (Asks.zero _)))
        · refine Ask.plain rfl rfl ?_
          intro aq wq hNq hO hR hT
          exact does_move (V := x1) ((hO 4 rfl).trans s4_3) ⟨Ext.refl _, rfl⟩
        · refine Ask.plain rfl rfl ?_
          intro aq wq hNq hO hR hT
          exact does_len (T := DG) (xs := l) sli_27 (SlT.at (hT 31 rfl rfl) (hsx1_3.ext' hR)) ⟨Ext.refl _, rfl⟩
        · refine Ask.plain rfl rfl ?_
          intro aq wq hNq hO hR hT
          exact does_neq (a := ((l.length : Nat) : Int)) (b := ((1 : Nat) : Int)) (hT 32 rfl rfl) rfl ⟨Ext.refl _, rfl⟩
      intro a8 wd8 hN_8 hD_8 hO hR hA hU
      obtain ⟨_, _, t33, _⟩ := hA
      have hE_8 := hE_3.trans hR
      have s4_8 := (hO 4 rfl).trans s4_3
      have s5_8 := (hO 5 rfl).trans s5_3
      have s10_8 := (hO 10 rfl).trans s10_3
      have s11_8 := (hO 11 rfl).trans s11_3
      have hbb5_8 := hbb5_3.ext' hR
      have hbb10_8 := hbb10_3.ext' hR
      have hbb11_8 := hbb11_3.ext' hR
      have hsx1_8 := hsx1_3.ext' hR
      have s33_8 : get a8 33 = Value.bool (!decide (((l.length : Nat) : Int) = ((1 : Nat) : Int))) := t33
      clear hE_3 hN_3 hD_3 s4_3 s5_3 s10_3 s11_3 s25_3 hbb5_3 hbb10_3 hbb11_3 hsx1_3
      refine tail_nil ?_
      refine wp_if (B := !decide (((l.length : Nat) : Int) = ((1 : Nat) : Int))) s33_8 (fun hc2 => ?_) (fun hc2 => ?_)
      · -- T 2
        have hc2 := of_decide_eq_false (bn hc2)
        refine wp_seq ?_
        refine region_late [] [(34, Pr.ex (Dg.val (old))), (35, Pr.ex (Dg.val (old)))] 2 [1] (fun k => k = b10 ∨ k = b11) mixed hN_8 hD_8 (by kernel_rfl) (by kernel_rfl) (by kernel_rfl) (by kernel_rfl) (fun d v c a w h => by cases d <;> exact h) ?_ ?_ ?_
        · refine Asks.cons ?_ (Asks.cons ?_ (Asks.zero _))
          · refine Ask.plain rfl rfl ?_
            intro aq wq hNq hO hR hT
            replace hR := (Ext.drew _).trans hR
            exact does_loadD (o := 0) (n := 4) (mid := [w32 (old).a, w32 (old).b, w32 (old).c, w32 (old).d]) ((hO 5 rfl).trans s5_8) (hbb5_8.ext' hR) rfl rfl (Nat.le_of_ble_eq_true rfl) row_24 rfl ⟨Ext.refl _, rfl⟩
          · refine Ask.plain rfl rfl ?_
            intro aq wq hNq hO hR hT
            replace hR := (Ext.drew _).trans hR
            exact does_loadD (o := 0) (n := 4) (mid := [w32 (old).a, w32 (old).b, w32 (old).c, w32 (old).d]) ((hO 5 rfl).trans s5_8) (hbb5_8.ext' hR) rfl rfl (Nat.le_of_ble_eq_true rfl) row_24 rfl ⟨Ext.refl _, rfl⟩
        · refine LateAsks.cons rfl rfl rfl ?_ LateAsks.nil
          · intro aq wq hO hR hT
            have hR0 := hR
            replace hR := (Ext.drew _).trans hR
            exact ⟨_, yl_loadD (o := 0) (n := 4) (mid := [w32 (old).a, w32 (old).b, w32 (old).c, w32 (old).d]) ((hO 5 rfl).trans s5_8) hbb5_8 (fun e => e.elim ne_b5_b10 ne_b5_b11) rfl rfl (Nat.le_of_ble_eq_true rfl) row_24 rfl, rfl⟩
        intro wl hwl hwh a9 wd9 hN_9 hD_9 hO hR hA hU
        have hS_9 : ExtE (fun k => k = b10 ∨ k = b11) wl wd9 := hR.toE
        replace hR := hwl.trans hR
        obtain ⟨t34, t35, _⟩ := hA
        have hE_9 := hE_8.trans hR
        have s10_9 := (hO 10 rfl).trans s10_8
        have s11_9 := (hO 11 rfl).trans s11_8
        have hbb5_9 := hbb5_8.ext' hR
        have hbb10_9 := hbb10_8.ext' hR
        have hbb11_9 := hbb11_8.ext' hR
        have hsx1_9 := hsx1_8.ext' hR
        have s34_9 : get a9 34 = Dg.val (old) := t34
        have s35_9 : get a9 35 = Dg.val (old) := t35
        clear hE_8 hN_8 hD_8 s4_8 s5_8 s10_8 s11_8 s33_8 hbb5_8 hbb10_8 hbb11_8 hsx1_8
        refine tailS_none rfl rfl (does_storeD (o := 0) (n := 4) (cs' := [w32 (old).a, w32 (old).b, w32 (old).c, w32 (old).d]) (V := Dg.val (old)) s10_9 s34_9 hbb10_9 (Nat.le_of_ble_eq_true rfl) rfl siz_24 rfl rfl (fun wd10 hX hz hbb10_10 => ⟨hS_9.trans (hX.mono fun k _ e => .inl e), ?_⟩))
        have hS_10 := hS_9.trans (hX.mono (E' := (fun k => k = b10 ∨ k = b11)) fun k _ e => .inl e)
        have hE_10 := hE_9.since hX (fun k e => e ▸ fr_b10)
        have hbb5_10 := hbb5_9.ext hX ne_b5_b10
        have hbb11_10 := hbb11_9.ext hX ne_b10_b11.symm
        have hsx1_10 := SlT.over hsx1_9 hX nb_x1_b10
        clear hX hz hE_9 hbb5_9 hbb10_9 hbb11_9 hsx1_9
        refine tailS_none rfl rfl (does_storeD (o := 0) (n := 4) (cs' := [w32 (old).a, w32 (old).b, w32 (old).c, w32 (old).d]) (V := Dg.val (old)) s11_9 s35_9 hbb11_10 (Nat.le_of_ble_eq_true rfl) rfl siz_24 rfl rfl (fun wd11 hX hz hbb11_11 => ⟨hS_10.trans (hX.mono fun k _ e => .inr e), ?_⟩))
        have hS_11 := hS_10.trans (hX.mono (E' := (fun k => k = b10 ∨ k = b11)) fun k _ e => .inr e)
        have hE_11 := hE_10.since hX (fun k e => e ▸ fr_b11)
        have hbb5_11 := hbb5_10.ext hX ne_b5_b11
        have hbb10_11 := hbb10_10.ext hX ne_b10_b11
        have hsx1_11 := SlT.over hsx1_10 hX nb_x1_b11
        clear hX hz hE_10 hbb5_10 hbb10_10 hbb11_10 hsx1_10
        refine tailS_put rfl rfl hN_9 hD_9 (by decide) (does_assign (V := Value.bool (false)) rfl (⟨hS_11, fun a12 hN_12 hD_12 hv hO => ?_⟩))
        have s12_12 := hv
        have s10_12 := (hO 10 rfl).trans s10_9
        have s11_12 := (hO 11 rfl).trans s11_9
        clear hO hv hN_9 hD_9 s10_9 s11_9 s34_9 s35_9
        refine tailS_nil ?_
        refine wp_ret ?_
        refine res_three (V1 := Dg.val (old)) (V2 := Dg.val (old)) (V3 := Value.bool (false)) rfl hD_12 (ResIs.cell s10_12 hbb10_11 row_24 rfl rfl) (ResIs.cell s11_12 hbb11_11 row_24 rfl rfl) s12_12 ?_
        subst hc1
        obtain ⟨e1, e2, e3⟩ := both_is (both_end0 hend old (p := l.reverse) (by rw [List.length_reverse]; omega))
        exact ⟨by show Value.tuple _ = Value.tuple _; rw [e1, e2, e3], hE_11⟩
      have hc2 := of_decide_eq_true (bn' hc2)
      obtain ⟨z, hl1⟩ := one_of (l := l) (by omega)
      refine wp_skip ?_
      refine wp_seq ?_
      refine region_late [] [(36, Pr.ex (x1)), (37, Pr.pt' 0 (w0.heap.size + 1) [w32 (z).a, w32 (z).b, w32 (z).c, w32 (z).d]), (38, Pr.ex (Dg.val (z))), (39, Pr.ex (x1)), (40, Pr.pt' 0 (w0.heap.size + 1) [w32 (z).a, w32 (z).b, w32 (z).c, w32 (z).d]), (41, Pr.ex (Dg.val (z)))] 6 [3, 4, 5] (fun k => k = b10 ∨ k = b11) mixed hN_8 hD_8 (by kernel_rfl) (by kernel_rfl) (by kernel_rfl) (by kernel_rfl) (fun d v c a w h => by cases d <;> exact h) ?_ ?_ ?_
      · refine Asks.cons ?_ (Asks.cons ?_ (Asks.cons ?_ (Asks.cons ?_ (Asks.cons ?_ (Asks.cons ?_ (Asks.zero _))))))
        · refine Ask.plain rfl rfl ?_
          intro aq wq hNq hO hR hT
          replace hR := (Ext.drew _).trans hR
          exact does_move (V := x1) ((hO 4 rfl).trans s4_8) ⟨Ext.refl _, rfl⟩
        · refine Ask.plain rfl rfl ?_
          intro aq wq hNq hO hR hT
          replace hR := (Ext.drew _).trans hR
          exact does_indexSl (T := DG) (xs := l) (i := ((0 : Nat) : Int)) (X := z) sli_27 rfl (SlT.at (hT 36 rfl rfl) (hsx1_8.ext' hR)) rfl (by omega) (by subst hl1; rfl) (fun v h => ⟨Ext.refl _, h⟩)
        · refine Ask.plain rfl rfl ?_
          intro aq wq hNq hO hR hT
          replace hR := (Ext.drew _).trans hR
          exact does_loadP (cs := [w32 (z).a, w32 (z).b, w32 (z).c, w32 (z).d]) (hT 37 rfl rfl) row_24 rfl ⟨Ext.refl _, rfl⟩
        · refine Ask.plain rfl rfl ?_
          intro aq wq hNq hO hR hT
          replace hR := (Ext.drew _).trans hR
          exact does_move (V := x1) ((hO 4 rfl).trans s4_8) ⟨Ext.refl _, rfl⟩
        · refine Ask.plain rfl rfl ?_
          intro aq wq hNq hO hR hT
          replace hR := (Ext.drew _).trans hR
          exact does_indexSl (T := DG) (xs := l) (i := ((0 : Nat) : Int)) (X := z) sli_27 rfl (SlT.at (hT 39 rfl rfl) (hsx1_8.ext' hR)) rfl (by omega) (by subst hl1; rfl) (fun v h => ⟨Ext.refl _, h⟩)
        · refine Ask.plain rfl rfl ?_
          intro aq wq hNq hO hR hT
          replace hR := (Ext.drew _).trans hR
          exact does_loadP (cs := [w32 (z).a, w32 (z).b, w32 (z).c, w32 (z).d]) (hT 40 rfl rfl) row_24 rfl ⟨Ext.refl _, rfl⟩
      · refine LateAsks.cons rfl rfl rfl ?_ (LateAsks.cons rfl rfl rfl ?_ (LateAsks.cons rfl rfl rfl ?_ LateAsks.nil))
        · intro aq wq hO hR hT
          have hR0 := hR
          replace hR := (Ext.drew _).trans hR
          exact ⟨_, yl_move (V := x1) ((hO 4 rfl).trans s4_8), rfl⟩
        · intro aq wq hO hR hT
          have hR0 := hR
          replace hR := (Ext.drew _).trans hR
          exact yl_indexSl (T := DG) (xs := l) (i := ((0 : Nat) : Int)) (X := z) sli_27 rfl (SlT.at (hT 39 rfl rfl) (hsx1_8.ext' hR)) rfl (by omega) (by subst hl1; rfl)
        · intro aq wq hO hR hT
          have hR0 := hR
          replace hR := (Ext.drew _).trans hR
          exact ⟨_, yl_loadP (cs := [w32 (z).a, w32 (z).b, w32 (z).c, w32 (z).d]) (hT 40 rfl rfl) hR0 (fun k hu => ⟨by unfold Under at hu; have := hE_8.size'; show k < wd8.heap.size; omega, by unfold Under at hu; intro e; have e' : k = b10 ∨ k = b11 := e; omega⟩) row_24 rfl, rfl⟩
      intro wl hwl hwh a13 wd13 hN_13 hD_13 hO hR hA hU
      have hS_13 : ExtE (fun k => k = b10 ∨ k = b11) wl wd13 := hR.toE
      replace hR := hwl.trans hR
      obtain ⟨_, _, t38, _, _, t41, _⟩ := hA
      have hE_13 := hE_8.trans hR
      have s10_13 := (hO 10 rfl).trans s10_8
      have s11_13 := (hO 11 rfl).trans s11_8
      have hbb5_13 := hbb5_8.ext' hR
      have hbb10_13 := hbb10_8.ext' hR
      have hbb11_13 := hbb11_8.ext' hR
      have hsx1_13 := hsx1_8.ext' hR
      have s38_13 : get a13 38 = Dg.val (z) := t38
      have s41_13 : get a13 41 = Dg.val (z) := t41
      clear hE_8 hN_8 hD_8 s4_8 s5_8 s10_8 s11_8 s33_8 hbb5_8 hbb10_8 hbb11_8 hsx1_8
      refine tailS_none rfl rfl (does_storeD (o := 0) (n := 4) (cs' := [w32 (z).a, w32 (z).b, w32 (z).c, w32 (z).d]) (V := Dg.val (z)) s10_13 s38_13 hbb10_13 (Nat.le_of_ble_eq_true rfl) rfl siz_24 rfl rfl (fun wd14 hX hz hbb10_14 => ⟨hS_13.trans (hX.mono fun k _ e => .inl e), ?_⟩))
      have hS_14 := hS_13.trans (hX.mono (E' := (fun k => k = b10 ∨ k = b11)) fun k _ e => .inl e)
      have hE_14 := hE_13.since hX (fun k e => e ▸ fr_b10)
      have hbb5_14 := hbb5_13.ext hX ne_b5_b10
      have hbb11_14 := hbb11_13.ext hX ne_b10_b11.symm
      have hsx1_14 := SlT.over hsx1_13 hX nb_x1_b10
      clear hX hz hE_13 hbb5_13 hbb10_13 hbb11_13 hsx1_13
      refine tailS_none rfl rfl (does_storeD (o := 0) (n := 4) (cs' := [w32 (z).a, w32 (z).b, w32 (z).c, w32 (z).d]) (V := Dg.val (z)) s11_13 s41_13 hbb11_14 (Nat.le_of_ble_eq_true rfl) rfl siz_24 rfl rfl (fun wd15 hX hz hbb11_15 => ⟨hS_14.trans (hX.mono fun k _ e => .inr e), ?_⟩))
      have hS_15 := hS_14.trans (hX.mono (E' := (fun k => k = b10 ∨ k = b11)) fun k _ e => .inr e)
      have hE_15 := hE_14.since hX (fun k e => e ▸ fr_b11)
      have hbb5_15 := hbb5_14.ext hX ne_b5_b11
      have hbb10_15 := hbb10_14.ext hX ne_b10_b11
      have hsx1_15 := SlT.over hsx1_14 hX nb_x1_b11
      clear hX hz hE_14 hbb5_14 hbb10_14 hbb11_14 hsx1_14
      refine tailS_put rfl rfl hN_13 hD_13 (by decide) (does_assign (V := Value.bool (true)) rfl (⟨hS_15, fun a16 hN_16 hD_16 hv hO => ?_⟩))
      have s12_16 := hv
      have s10_16 := (hO 10 rfl).trans s10_13
      have s11_16 := (hO 11 rfl).trans s11_13
      clear hO hv hN_13 hD_13 s10_13 s11_13 s38_13 s41_13
      refine tailS_nil ?_
      refine wp_ret ?_
      refine res_three (V1 := Dg.val (z)) (V2 := Dg.val (z)) (V3 := Value.bool (true)) rfl hD_16 (ResIs.cell s10_16 hbb10_15 row_24 rfl rfl) (ResIs.cell s11_16 hbb11_15 row_24 rfl rfl) s12_16 ?_
      subst hc1
      obtain ⟨e1, e2, e3⟩ := both_is (both_end1 hend old z)
      have hr : l.reverse = [z] := by rw [hl1]; rfl
      exact ⟨by show Value.tuple _ = Value.tuple _; rw [hr, e1, e2, e3], hE_15⟩
    have hc0 := of_decide_eq_false hc0
    have h2 : 2 ≤ n ∧ m ≠ n := ⟨by omega, by omega⟩
    have hh := half_lt h2.1
    have hp := half_pos n
    refine wp_skip ?_
    refine wp_seq ?_
    refine wp_seq ?_
    refine region_lex [] [(42, Pr.ex (x1)), (43, Pr.ex (i64 ((l.length : Nat) : Int))), (44, Pr.ex (Value.bool (decide (((l.length : Nat) : Int) = ((0 : Nat) : Int)))))] 3 hN_2 hD_2 (by kernel_rfl) (by kernel_rfl) ?_ ?_
    · refine Asks.cons ?_ (Asks.cons ?_ (Asks.cons ?_ (Asks.zero _)))
      · refine Ask.plain rfl rfl ?_
        intro aq wq hNq hO hR hT
        exact does_move (V := x1) ((hO 4 rfl).trans s4_2) ⟨Ext.refl _, rfl⟩
      · refine Ask.plain rfl rfl ?_
        intro aq wq hNq hO hR hT
        exact does_len (T := DG) (xs := l) sli_27 (SlT.at (hT 42 rfl rfl) (hsx1_2.ext' hR)) ⟨Ext.refl _, rfl⟩
      · refine Ask.plain rfl rfl ?_
        intro aq wq hNq hO hR hT
        exact does_eql (a := ((l.length : Nat) : Int)) (b := ((0 : Nat) : Int)) (hT 43 rfl rfl) rfl ⟨Ext.refl _, rfl⟩
    intro a17 wd17 hN_17 hD_17 hO hR hA hU
    obtain ⟨_, _, t44, _⟩ := hA
    have hE_17 := hE_2.trans hR
    have s1_17 := (hO 1 rfl).trans s1_2
    have s2_17 := (hO 2 rfl).trans s2_2
    have s3_17 := (hO 3 rfl).trans s3_2
    have s4_17 := (hO 4 rfl).trans s4_2
    have s5_17 := (hO 5 rfl).trans s5_2
    have s10_17 := (hO 10 rfl).trans s10_2
    have s11_17 := (hO 11 rfl).trans s11_2
    have hbb5_17 := hbb5_2.ext' hR
    have hbb10_17 := hbb10_2.ext' hR
    have hbb11_17 := hbb11_2.ext' hR
    have hsx1_17 := hsx1_2.ext' hR
    have s44_17 : get a17 44 = Value.bool (decide (((l.length : Nat) : Int) = ((0 : Nat) : Int))) := t44
    clear hE_2 hN_2 hD_2 s1_2 s2_2 s3_2 s4_2 s5_2 s10_2 s11_2 s24_2 hbb5_2 hbb10_2 hbb11_2 hsx1_2
    refine tail_nil ?_
    refine wp_if (B := decide (((l.length : Nat) : Int) = ((0 : Nat) : Int))) s44_17 (fun hc3 => ?_) (fun hc3 => ?_)
    · -- T 3
      have hc3 := of_decide_eq_true hc3
      refine wp_seq ?_
      refine region_late [] [(45, Pr.ex (Dg.val (old))), (46, Pr.ex (Dg.val (old)))] 2 [1] (fun k => k = b10 ∨ k = b11) mixed hN_17 hD_17 (by kernel_rfl) (by kernel_rfl) (by kernel_rfl) (by kernel_rfl) (fun d v c a w h => by cases d <;> exact h) ?_ ?_ ?_
      · refine Asks.cons ?_ (Asks.cons ?_ (Asks.zero _))
        · refine Ask.plain rfl rfl ?_
          intro aq wq hNq hO hR hT
          replace hR := (Ext.drew _).trans hR
          exact does_loadD (o := 0) (n := 4) (mid := [w32 (old).a, w32 (old).b, w32 (old).c, w32 (old).d]) ((hO 5 rfl).trans s5_17) (hbb5_17.ext' hR) rfl rfl (Nat.le_of_ble_eq_true rfl) row_24 rfl ⟨Ext.refl _, rfl⟩
        · refine Ask.plain rfl rfl ?_
          intro aq wq hNq hO hR hT
          replace hR := (Ext.drew _).trans hR
          exact does_loadD (o := 0) (n := 4) (mid := [w32 (old).a, w32 (old).b, w32 (old).c, w32 (old).d]) ((hO 5 rfl).trans s5_17) (hbb5_17.ext' hR) rfl rfl (Nat.le_of_ble_eq_true rfl) row_24 rfl ⟨Ext.refl _, rfl⟩
      · refine LateAsks.cons rfl rfl rfl ?_ LateAsks.nil
        · intro aq wq hO hR hT
          have hR0 := hR
          replace hR := (Ext.drew _).trans hR
          exact ⟨_, yl_loadD (o := 0) (n := 4) (mid := [w32 (old).a, w32 (old).b, w32 (old).c, w32 (old).d]) ((hO 5 rfl).trans s5_17) hbb5_17 (fun e => e.elim ne_b5_b10 ne_b5_b11) rfl rfl (Nat.le_of_ble_eq_true rfl) row_24 rfl, rfl⟩
      intro wl hwl hwh a18 wd18 hN_18 hD_18 hO hR hA hU
      have hS_18 : ExtE (fun k => k = b10 ∨ k = b11) wl wd18 := hR.toE
      replace hR := hwl.trans hR
      obtain ⟨t45, t46, _⟩ := hA
      have hE_18 := hE_17.trans hR
      have s10_18 := (hO 10 rfl).trans s10_17
      have s11_18 := (hO 11 rfl).trans s11_17
      have hbb5_18 := hbb5_17.ext' hR
      have hbb10_18 := hbb10_17.ext' hR
      have hbb11_18 := hbb11_17.ext' hR
      have hsx1_18 := hsx1_17.ext' hR
      have s45_18 : get a18 45 = Dg.val (old) := t45
      have s46_18 : get a18 46 = Dg.val (old) := t46
      clear hE_17 hN_17 hD_17 s1_17 s2_17 s3_17 s4_17 s5_17 s10_17 s11_17 s44_17 hbb5_17 hbb10_17 hbb11_17 hsx1_17
      refine tailS_none rfl rfl (does_storeD (o := 0) (n := 4) (cs' := [w32 (old).a, w32 (old).b, w32 (old).c, w32 (old).d]) (V := Dg.val (old)) s10_18 s45_18 hbb10_18 (Nat.le_of_ble_eq_true rfl) rfl siz_24 rfl rfl (fun wd19 hX hz hbb10_19 => ⟨hS_18.trans (hX.mono fun k _ e => .inl e), ?_⟩))
      have hS_19 := hS_18.trans (hX.mono (E' := (fun k => k = b10 ∨ k = b11)) fun k _ e => .inl e)
      have hE_19 := hE_18.since hX (fun k e => e ▸ fr_b10)
      have hbb5_19 := hbb5_18.ext hX ne_b5_b10
      have hbb11_19 := hbb11_18.ext hX ne_b10_b11.symm
      have hsx1_19 := SlT.over hsx1_18 hX nb_x1_b10
      clear hX hz hE_18 hbb5_18 hbb10_18 hbb11_18 hsx1_18
      refine tailS_none rfl rfl (does_storeD (o := 0) (n := 4) (cs' := [w32 (old).a, w32 (old).b, w32 (old).c, w32 (old).d]) (V := Dg.val (old)) s11_18 s46_18 hbb11_19 (Nat.le_of_ble_eq_true rfl) rfl siz_24 rfl rfl (fun wd20 hX hz hbb11_20 => ⟨hS_19.trans (hX.mono fun k _ e => .inr e), ?_⟩))
      have hS_20 := hS_19.trans (hX.mono (E' := (fun k => k = b10 ∨ k = b11)) fun k _ e => .inr e)
      have hE_20 := hE_19.since hX (fun k e => e ▸ fr_b11)
      have hbb5_20 := hbb5_19.ext hX ne_b5_b11
      have hbb10_20 := hbb10_19.ext hX ne_b10_b11
      have hsx1_20 := SlT.over hsx1_19 hX nb_x1_b11
      clear hX hz hE_19 hbb5_19 hbb10_19 hbb11_19 hsx1_19
      refine tailS_put rfl rfl hN_18 hD_18 (by decide) (does_assign (V := Value.bool (false)) rfl (⟨hS_20, fun a21 hN_21 hD_21 hv hO => ?_⟩))
      have s12_21 := hv
      have s10_21 := (hO 10 rfl).trans s10_18
      have s11_21 := (hO 11 rfl).trans s11_18
      clear hO hv hN_18 hD_18 s10_18 s11_18 s45_18 s46_18
      refine tailS_nil ?_
      refine wp_ret ?_
      refine res_three (V1 := Dg.val (old)) (V2 := Dg.val (old)) (V3 := Value.bool (false)) rfl hD_21 (ResIs.cell s10_21 hbb10_20 row_24 rfl rfl) (ResIs.cell s11_21 hbb11_20 row_24 rfl rfl) s12_21 ?_
      obtain ⟨e1, e2, e3⟩ := both_is (both_nil h2 old whole)
      exact ⟨by show Value.tuple _ = Value.tuple _; rw [rev_nil (by omega), e1, e2, e3], hE_20⟩
    have hc3 := of_decide_eq_false hc3
    obtain ⟨z, hz⟩ := get_of_lt (l := l) (k := l.length - 1) (by omega)
    refine wp_skip ?_
    refine wp_seq ?_
    refine region_lex [13] [(47, Pr.ex (x1)), (48, Pr.ex (x1)), (49, Pr.ex (i64 ((l.length : Nat) : Int))), (50, Pr.ex (i64 ((l.length - 1 : Nat) : Int))), (51, Pr.pt' 0 (w0.heap.size + 1) [w32 (z).a, w32 (z).b, w32 (z).c, w32 (z).d]), (52, Pr.ex (Dg.val (z))), (13, Pr.box' wd17.heap.size 24 [w32 (Dg.zero).a, w32 (Dg.zero).b, w32 (Dg.zero).c, w32 (Dg.zero).d])] 7 hN_17 hD_17 (by kernel_rfl) (by kernel_rfl) ?_ ?_
    · refine Asks.cons ?_ (Asks.cons ?_ (Asks.cons ?_ (Asks.cons ?_ (Asks.cons ?_ (Asks.cons ?_ (Asks.cons ?_ (Asks.zero _)))))))
      · refine Ask.plain rfl rfl ?_
        intro aq wq hNq hO hR hT
        exact does_move (V := x1) ((hO 4 rfl).trans s4_17) ⟨Ext.refl _, rfl⟩
      · refine Ask.plain rfl rfl ?_
        intro aq wq hNq hO hR hT
        exact does_move (V := x1) ((hO 4 rfl).trans s4_17) ⟨Ext.refl _, rfl⟩
      · refine Ask.plain rfl rfl ?_
        intro aq wq hNq hO hR hT
        exact does_len (T := DG) (xs := l) sli_27 (SlT.at (hT 48 rfl rfl) (hsx1_17.ext' hR)) ⟨Ext.refl _, rfl⟩
      · refine Ask.plain rfl rfl ?_
        intro aq wq hNq hO hR hT
        exact does_sub (a := ((l.length : Nat) : Int)) (b := ((1 : Nat) : Int)) (r := ((l.length - 1 : Nat) : Int)) (hT 49 rfl rfl) rfl (by omega) (by omega) (by omega) ⟨Ext.refl _, rfl⟩
      · refine Ask.plain rfl rfl ?_
        intro aq wq hNq hO hR hT
        exact does_indexSl (T := DG) (xs := l) (i := ((l.length - 1 : Nat) : Int)) (X := z) sli_27 rfl (SlT.at (hT 47 rfl rfl) (hsx1_17.ext' hR)) (hT 50 rfl rfl) (by omega) (by simpa using hz) (fun v h => ⟨Ext.refl _, h⟩)
      · refine Ask.plain rfl rfl ?_
        intro aq wq hNq hO hR hT
        exact does_loadP (cs := [w32 (z).a, w32 (z).b, w32 (z).c, w32 (z).d]) (hT 51 rfl rfl) row_24 rfl ⟨Ext.refl _, rfl⟩
      · refine Ask.fresh rfl rfl ?_
        intro aq wq hNq hO hR hT
        exact does_alloc zero_24 (fun b w2 he hlo hb => ⟨he, ⟨b, rfl, Nat.le_trans hR.size' hlo, hb⟩, ⟨b, rfl, hlo, hb.lt⟩⟩)
    intro a22 wd22 hN_22 hD_22 hO hR hA hU
    obtain ⟨_, _, _, _, _, t52, t13, _⟩ := hA
    have hE_22 := hE_17.trans hR
    have s1_22 := (hO 1 rfl).trans s1_17
    have s2_22 := (hO 2 rfl).trans s2_17
    have s3_22 := (hO 3 rfl).trans s3_17
    have s4_22 := (hO 4 rfl).trans s4_17
    have s5_22 := (hO 5 rfl).trans s5_17
    have s10_22 := (hO 10 rfl).trans s10_17
    have s11_22 := (hO 11 rfl).trans s11_17
    have hbb5_22 := hbb5_17.ext' hR
    have hbb10_22 := hbb10_17.ext' hR
    have hbb11_22 := hbb11_17.ext' hR
    have hsx1_22 := hsx1_17.ext' hR
    have s52_22 : get a22 52 = Dg.val (z) := t52
    obtain ⟨b13, s13_22, lo_b13, hbb13_22⟩ := t13
    have ne_b5_b13 : b5 ≠ b13 := fun e => Nat.lt_irrefl _ (Nat.lt_of_lt_of_le hbb5_17.lt (e ▸ lo_b13))
    have ne_b10_b13 : b10 ≠ b13 := fun e => Nat.lt_irrefl _ (Nat.lt_of_lt_of_le hbb10_17.lt (e ▸ lo_b13))
    have ne_b11_b13 : b11 ≠ b13 := fun e => Nat.lt_irrefl _ (Nat.lt_of_lt_of_le hbb11_17.lt (e ▸ lo_b13))
    have nb_x1_b13 := SlT.old hsx1_17 lo_b13
    have fr_b13 : w0.heap.size ≤ b13 := Nat.le_trans hE_17.size' lo_b13
    clear hE_17 hN_17 hD_17 s1_17 s2_17 s3_17 s4_17 s5_17 s10_17 s11_17 s44_17 hbb5_17 hbb10_17 hbb11_17 hsx1_17
    refine tail_none rfl rfl (does_storeD (o := 0) (n := 4) (cs' := [w32 (z).a, w32 (z).b, w32 (z).c, w32 (z).d]) (V := Dg.val (z)) s13_22 s52_22 hbb13_22 (Nat.le_of_ble_eq_true rfl) rfl siz_24 rfl rfl (fun wd23 hX hz hbb13_23 => ?_))
    have hE_23 := hE_22.since hX (fun k e => e ▸ fr_b13)
    have hbb5_23 := hbb5_22.ext hX ne_b5_b13
    have hbb10_23 := hbb10_22.ext hX ne_b10_b13
    have hbb11_23 := hbb11_22.ext hX ne_b11_b13
    have hsx1_23 := SlT.over hsx1_22 hX nb_x1_b13
    clear hX hz hE_22 hbb5_22 hbb10_22 hbb11_22 hbb13_22 hsx1_22
    refine tail_nil ?_
    refine wp_seq ?_
    refine region_lex [] [(53, Pr.ex (x1)), (54, Pr.ex (x1)), (55, Pr.ex (i64 ((l.length : Nat) : Int))), (56, Pr.ex (i64 ((l.length - 1 : Nat) : Int))), (57, Pr.sl' DG 0 (w0.heap.size + 1) (l.take (l.length - 1))), (14, Pr.sl' DG 0 (w0.heap.size + 1) (l.take (l.length - 1)))] 6 hN_22 hD_22 (by kernel_rfl) (by kernel_rfl) ?_ ?_
    · refine Asks.cons ?_ (Asks.cons ?_ (Asks.cons ?_ (Asks.cons ?_ (Asks.cons ?_ (Asks.cons ?_ (Asks.zero _))))))
      · refine Ask.plain rfl rfl ?_
        intro aq wq hNq hO hR hT
        exact does_move (V := x1) ((hO 4 rfl).trans s4_22) ⟨Ext.refl _, rfl⟩
      · refine Ask.plain rfl rfl ?_
        intro aq wq hNq hO hR hT
        exact does_move (V := x1) ((hO 4 rfl).trans s4_22) ⟨Ext.refl _, rfl⟩
      · refine Ask.plain rfl rfl ?_
        intro aq wq hNq hO hR hT
        exact does_len (T := DG) (xs := l) sli_27 (SlT.at (hT 54 rfl rfl) (hsx1_23.ext' hR)) ⟨Ext.refl _, rfl⟩
      · refine Ask.plain rfl rfl ?_
        intro aq wq hNq hO hR hT
        exact does_sub (a := ((l.length : Nat) : Int)) (b := ((1 : Nat) : Int)) (r := ((l.length - 1 : Nat) : Int)) (hT 55 rfl rfl) rfl (by omega) (by omega) (by omega) ⟨Ext.refl _, rfl⟩
      · refine Ask.plain rfl rfl ?_
        intro aq wq hNq hO hR hT
        exact does_sliceHi (T := DG) (xs := l) (k := ((l.length - 1 : Nat) : Int)) sli_27 rfl (SlT.at (hT 53 rfl rfl) (hsx1_23.ext' hR)) (hT 56 rfl rfl) (by omega) (by omega) (fun v h => ⟨Ext.refl _, h⟩)
      · refine Ask.plain rfl rfl ?_
        intro aq wq hNq hO hR hT
        exact does_assign rfl ⟨Ext.refl _, (hT 57 rfl rfl)⟩
    intro a24 wd24 hN_24 hD_24 hO hR hA hU
    obtain ⟨_, _, _, _, _, t14, _⟩ := hA
    have hE_24 := hE_23.trans hR
    have s1_24 := (hO 1 rfl).trans s1_22
    have s2_24 := (hO 2 rfl).trans s2_22
    have s3_24 := (hO 3 rfl).trans s3_22
    have s5_24 := (hO 5 rfl).trans s5_22
    have s10_24 := (hO 10 rfl).trans s10_22
    have s11_24 := (hO 11 rfl).trans s11_22
    have s13_24 := (hO 13 rfl).trans s13_22
    have hbb5_24 := hbb5_23.ext' hR
    have hbb10_24 := hbb10_23.ext' hR
    have hbb11_24 := hbb11_23.ext' hR
    have hbb13_24 := hbb13_23.ext' hR
    have hsx1_24 := hsx1_23.ext' hR
    obtain ⟨x14, s14_24⟩ : ∃ x, get a24 14 = x := ⟨_, rfl⟩
    replace t14 : SlT DG 0 (w0.heap.size + 1) (l.take (l.length - 1)) x14 wd24 := by rw [← s14_24]; exact t14
    have hsx14_24 := t14
    clear hE_23 hN_22 hD_22 s1_22 s2_22 s3_22 s4_22 s5_22 s10_22 s11_22 s13_22 s52_22 hbb5_23 hbb10_23 hbb11_23 hbb13_23 hsx1_23
    refine tail_nil ?_
    refine wp_seq ?_
    refine region_lex [] [(58, Pr.ex (i64 ((n : Nat) : Int))), (59, Pr.ex (i64 ((half n : Nat) : Int))), (15, Pr.ex (i64 ((half n : Nat) : Int)))] 3 hN_24 hD_24 (by kernel_rfl) (by kernel_rfl) ?_ ?_
    · refine Asks.cons ?_ (Asks.cons ?_ (Asks.cons ?_ (Asks.zero _)))
      · refine Ask.plain rfl rfl ?_
        intro aq wq hNq hO hR hT
        exact does_move (V := i64 ((n : Nat) : Int)) ((hO 2 rfl).trans s2_24) ⟨Ext.refl _, rfl⟩
      · refine Ask.plain rfl rfl ?_
        intro aq wq hNq hO hR hT
        exact does_ret (vs := #[i64 ((n : Nat) : Int)]) call_32 (args1 (hT 58 rfl rfl)) rfl ((halfR (n) wq (by omega) (by omega)).mono fun v w2 h => ⟨h.2, h.1⟩)
      · refine Ask.plain rfl rfl ?_
        intro aq wq hNq hO hR hT
        exact does_assign (V := i64 ((half n : Nat) : Int)) (hT 59 rfl rfl) ⟨Ext.refl _, rfl⟩
    intro a25 wd25 hN_25 hD_25 hO hR hA hU
    obtain ⟨_, _, t15, _⟩ := hA
    have hE_25 := hE_24.trans hR
    have s1_25 := (hO 1 rfl).trans s1_24
    have s2_25 := (hO 2 rfl).trans s2_24
    have s3_25 := (hO 3 rfl).trans s3_24
    have s5_25 := (hO 5 rfl).trans s5_24
    have s10_25 := (hO 10 rfl).trans s10_24
    have s11_25 := (hO 11 rfl).trans s11_24
    have s13_25 := (hO 13 rfl).trans s13_24
    have s14_25 := (hO 14 rfl).trans s14_24
    have hbb5_25 := hbb5_24.ext' hR
    have hbb10_25 := hbb10_24.ext' hR
    have hbb11_25 := hbb11_24.ext' hR
    have hbb13_25 := hbb13_24.ext' hR
    have hsx1_25 := hsx1_24.ext' hR
    have hsx14_25 := hsx14_24.ext' hR
    have s15_25 : get a25 15 = i64 ((half n : Nat) : Int) := t15
    clear hE_24 hN_24 hD_24 s1_24 s2_24 s3_24 s5_24 s10_24 s11_24 s13_24 s14_24 hbb5_24 hbb10_24 hbb11_24 hbb13_24 hsx1_24 hsx14_24
    refine tail_nil ?_
    refine wp_seq ?_
    refine wp_seq ?_
    refine region_lex [] [(60, Pr.ex (i64 ((m : Nat) : Int))), (61, Pr.ex (i64 ((half n : Nat) : Int))), (62, Pr.ex (Value.bool (decide (((m : Nat) : Int) ≤ ((half n : Nat) : Int)))))] 3 hN_25 hD_25 (by kernel_rfl) (by kernel_rfl) ?_ ?_
    · refine Asks.cons ?_ (Asks.cons ?_ (Asks.cons ?_ (Asks.zero _)))
      · refine Ask.plain rfl rfl ?_
        intro aq wq hNq hO hR hT
        exact does_move (V := i64 ((m : Nat) : Int)) ((hO 1 rfl).trans s1_25) ⟨Ext.refl _, rfl⟩
      · refine Ask.plain rfl rfl ?_
        intro aq wq hNq hO hR hT
        exact does_move (V := i64 ((half n : Nat) : Int)) ((hO 15 rfl).trans s15_25) ⟨Ext.refl _, rfl⟩
      · refine Ask.plain rfl rfl ?_
        intro aq wq hNq hO hR hT
        exact does_leq (a := ((m : Nat) : Int)) (b := ((half n : Nat) : Int)) (hT 60 rfl rfl) (hT 61 rfl rfl) ⟨Ext.refl _, rfl⟩
    intro a26 wd26 hN_26 hD_26 hO hR hA hU
    obtain ⟨_, _, t62, _⟩ := hA
    have hE_26 := hE_25.trans hR
    have s1_26 := (hO 1 rfl).trans s1_25
    have s2_26 := (hO 2 rfl).trans s2_25
    have s3_26 := (hO 3 rfl).trans s3_25
    have s5_26 := (hO 5 rfl).trans s5_25
    have s10_26 := (hO 10 rfl).trans s10_25
    have s11_26 := (hO 11 rfl).trans s11_25
    have s13_26 := (hO 13 rfl).trans s13_25
    have s14_26 := (hO 14 rfl).trans s14_25
    have s15_26 := (hO 15 rfl).trans s15_25
    have hbb5_26 := hbb5_25.ext' hR
    have hbb10_26 := hbb10_25.ext' hR
    have hbb11_26 := hbb11_25.ext' hR
    have hbb13_26 := hbb13_25.ext' hR
    have hsx1_26 := hsx1_25.ext' hR
    have hsx14_26 := hsx14_25.ext' hR
    have s62_26 : get a26 62 = Value.bool (decide (((m : Nat) : Int) ≤ ((half n : Nat) : Int))) := t62
    clear hE_25 hN_25 hD_25 s1_25 s2_25 s3_25 s5_25 s10_25 s11_25 s13_25 s14_25 s15_25 hbb5_25 hbb10_25 hbb11_25 hbb13_25 hsx1_25 hsx14_25
    refine tail_nil ?_
    refine wp_if (B := decide (((m : Nat) : Int) ≤ ((half n : Nat) : Int))) s62_26 (fun hc4 => ?_) (fun hc4 => ?_)
    · -- T 4
      have hc4 := of_decide_eq_true hc4
      have hlo : m ≤ half n := by omega
      refine wp_seq ?_
      refine region_lex [16, 17] [(64, Pr.ex (Dg.val (old))), (65, Pr.ex (i64 ((m : Nat) : Int))), (66, Pr.ex (i64 ((half n : Nat) : Int))), (67, Pr.ex (Value.bool (whole))), (68, Pr.ex (x14)), (69, Pr.ex (Value.tuple #[Dg.val ((both old m (half n) whole (l.take (l.length - 1)).reverse).1), Dg.val ((both old m (half n) whole (l.take (l.length - 1)).reverse).2.1), Value.bool ((both old m (half n) whole (l.take (l.length - 1)).reverse).2.2)])), (63, Pr.ex (Value.tuple #[Dg.val ((both old m (half n) whole (l.take (l.length - 1)).reverse).1), Dg.val ((both old m (half n) whole (l.take (l.length - 1)).reverse).2.1), Value.bool ((both old m (half n) whole (l.take (l.length - 1)).reverse).2.2)])), (70, Pr.ex (Dg.val ((both old m (half n) whole (l.take (l.length - 1)).reverse).1))), (71, Pr.ex (Dg.val ((both old m (half n) whole (l.take (l.length - 1)).reverse).2.1))), (72, Pr.ex (Value.bool ((both old m (half n) whole (l.take (l.length - 1)).reverse).2.2))), (16, Pr.box' wd26.heap.size 24 [w32 (Dg.zero).a, w32 (Dg.zero).b, w32 (Dg.zero).c, w32 (Dg.zero).d]), (17, Pr.box' wd26.heap.size 24 [w32 (Dg.zero).a, w32 (Dg.zero).b, w32 (Dg.zero).c, w32 (Dg.zero).d])] 12 hN_26 hD_26 (by kernel_rfl) (by kernel_rfl) ?_ ?_
      · refine Asks.cons ?_ (Asks.cons ?_ (Asks.cons ?_ (Asks.cons ?_ (Asks.cons ?_ (Asks.cons ?_ (Asks.cons ?_ (Asks.cons ?_ (Asks.cons ?_ (Asks.cons ?_ (Asks.cons ?_ (Asks.cons ?_ (Asks.zero _))))))))))))
        · refine Ask.plain rfl rfl ?_
          intro aq wq hNq hO hR hT
          exact does_loadD (o := 0) (n := 4) (mid := [w32 (old).a, w32 (old).b, w32 (old).c, w32 (old).d]) ((hO 5 rfl).trans s5_26) (hbb5_26.ext' hR) rfl rfl (Nat.le_of_ble_eq_true rfl) row_24 rfl ⟨Ext.refl _, rfl⟩
        · refine Ask.plain rfl rfl ?_
          intro aq wq hNq hO hR hT
          exact does_move (V := i64 ((m : Nat) : Int)) ((hO 1 rfl).trans s1_26) ⟨Ext.refl _, rfl⟩
        · refine Ask.plain rfl rfl ?_
          intro aq wq hNq hO hR hT
          exact does_move (V := i64 ((half n : Nat) : Int)) ((hO 15 rfl).trans s15_26) ⟨Ext.refl _, rfl⟩
        · refine Ask.plain rfl rfl ?_
          intro aq wq hNq hO hR hT
          exact does_move (V := Value.bool (whole)) ((hO 3 rfl).trans s3_26) ⟨Ext.refl _, rfl⟩
        · refine Ask.plain rfl rfl ?_
          intro aq wq hNq hO hR hT
          exact does_move (V := x14) ((hO 14 rfl).trans s14_26) ⟨Ext.refl _, rfl⟩
        · refine Ask.plain rfl rfl ?_
          intro aq wq hNq hO hR hT
          exact does_ret (vs := #[Dg.val (old), i64 ((m : Nat) : Int), i64 ((half n : Nat) : Int), Value.bool (whole), x14]) call_43 (args5 (hT 64 rfl rfl) (hT 65 rfl rfl) (hT 66 rfl rfl) (hT 67 rfl rfl) (hT 68 rfl rfl)) rfl ((ih _ (by omega) m (half n) whole old (l.take (l.length - 1)) (x14) wq ((hsx14_26.ext' hR).wide (Nat.zero_le _) (.inl rfl)) (by omega) (by omega) (by omega) (by simp only [List.length_take]; omega) rfl).mono fun v w2 h => ⟨h.2, h.1⟩)
        · refine Ask.plain rfl rfl ?_
          intro aq wq hNq hO hR hT
          exact does_move (V := Value.tuple #[Dg.val ((both old m (half n) whole (l.take (l.length - 1)).reverse).1), Dg.val ((both old m (half n) whole (l.take (l.length - 1)).reverse).2.1), Value.bool ((both old m (half n) whole (l.take (l.length - 1)).reverse).2.2)]) (hT 69 rfl rfl) ⟨Ext.refl _, rfl⟩
        · refine Ask.plain rfl rfl ?_
          intro aq wq hNq hO hR hT
          exact does_extract (V := Dg.val ((both old m (half n) whole (l.take (l.length - 1)).reverse).1)) (hT 63 rfl rfl) rfl ⟨Ext.refl _, rfl⟩
        · refine Ask.plain rfl rfl ?_
          intro aq wq hNq hO hR hT
          exact does_extract (V := Dg.val ((both old m (half n) whole (l.take (l.length - 1)).reverse).2.1)) (hT 63 rfl rfl) rfl ⟨Ext.refl _, rfl⟩
        · refine Ask.plain rfl rfl ?_
          intro aq wq hNq hO hR hT
          exact does_extract (V := Value.bool ((both old m (half n) whole (l.take (l.length - 1)).reverse).2.2)) (hT 63 rfl rfl) rfl ⟨Ext.refl _, rfl⟩
        · refine Ask.fresh rfl rfl ?_
          intro aq wq hNq hO hR hT
          exact does_alloc zero_24 (fun b w2 he hlo hb => ⟨he, ⟨b, rfl, Nat.le_trans hR.size' hlo, hb⟩, ⟨b, rfl, hlo, hb.lt⟩⟩)
        · refine Ask.fresh rfl rfl ?_
          intro aq wq hNq hO hR hT
          exact does_alloc zero_24 (fun b w2 he hlo hb => ⟨he, ⟨b, rfl, Nat.le_trans hR.size' hlo, hb⟩, ⟨b, rfl, hlo, hb.lt⟩⟩)
      intro a27 wd27 hN_27 hD_27 hO hR hA hU
      obtain ⟨_, _, _, _, _, _, _, t70, t71, t72, t16, t17, _⟩ := hA
      have hE_27 := hE_26.trans hR
      have s10_27 := (hO 10 rfl).trans s10_26
      have s11_27 := (hO 11 rfl).trans s11_26
      have s13_27 := (hO 13 rfl).trans s13_26
      have hbb5_27 := hbb5_26.ext' hR
      have hbb10_27 := hbb10_26.ext' hR
      have hbb11_27 := hbb11_26.ext' hR
      have hbb13_27 := hbb13_26.ext' hR
      have hsx1_27 := hsx1_26.ext' hR
      have hsx14_27 := hsx14_26.ext' hR
      have s70_27 : get a27 70 = Dg.val ((both old m (half n) whole (l.take (l.length - 1)).reverse).1) := t70
      have s71_27 : get a27 71 = Dg.val ((both old m (half n) whole (l.take (l.length - 1)).reverse).2.1) := t71
      have s72_27 : get a27 72 = Value.bool ((both old m (half n) whole (l.take (l.length - 1)).reverse).2.2) := t72
      obtain ⟨b16, s16_27, lo_b16, hbb16_27⟩ := t16
      have ne_b5_b16 : b5 ≠ b16 := fun e => Nat.lt_irrefl _ (Nat.lt_of_lt_of_le hbb5_26.lt (e ▸ lo_b16))
      have ne_b10_b16 : b10 ≠ b16 := fun e => Nat.lt_irrefl _ (Nat.lt_of_lt_of_le hbb10_26.lt (e ▸ lo_b16))
      have ne_b11_b16 : b11 ≠ b16 := fun e => Nat.lt_irrefl _ (Nat.lt_of_lt_of_le hbb11_26.lt (e ▸ lo_b16))
      have ne_b13_b16 : b13 ≠ b16 := fun e => Nat.lt_irrefl _ (Nat.lt_of_lt_of_le hbb13_26.lt (e ▸ lo_b16))
      have nb_x1_b16 := SlT.old hsx1_26 lo_b16
      have nb_x14_b16 := SlT.old hsx14_26 lo_b16
      have fr_b16 : w0.heap.size ≤ b16 := Nat.le_trans hE_26.size' lo_b16
      obtain ⟨b17, s17_27, lo_b17, hbb17_27⟩ := t17
      have ne_b5_b17 : b5 ≠ b17 := fun e => Nat.lt_irrefl _ (Nat.lt_of_lt_of_le hbb5_26.lt (e ▸ lo_b17))
      have ne_b10_b17 : b10 ≠ b17 := fun e => Nat.lt_irrefl _ (Nat.lt_of_lt_of_le hbb10_26.lt (e ▸ lo_b17))
      have ne_b11_b17 : b11 ≠ b17 := fun e => Nat.lt_irrefl _ (Nat.lt_of_lt_of_le hbb11_26.lt (e ▸ lo_b17))
      have ne_b13_b17 : b13 ≠ b17 := fun e => Nat.lt_irrefl _ (Nat.lt_of_lt_of_le hbb13_26.lt (e ▸ lo_b17))
      have nb_x1_b17 := SlT.old hsx1_26 lo_b17
      have nb_x14_b17 := SlT.old hsx14_26 lo_b17
      have fr_b17 : w0.heap.size ≤ b17 := Nat.le_trans hE_26.size' lo_b17
      obtain ⟨u0, ⟨u1, _⟩⟩ := hU
      have ne_b16_b17 : b16 ≠ b17 := fun e => u0 17 (by decide) (by rw [s16_27, s17_27, e])
      clear hE_26 hN_26 hD_26 s1_26 s2_26 s3_26 s5_26 s10_26 s11_26 s13_26 s14_26 s15_26 s62_26 hbb5_26 hbb10_26 hbb11_26 hbb13_26 hsx1_26 hsx14_26
      refine tail_none rfl rfl (does_storeD (o := 0) (n := 4) (cs' := [w32 ((both old m (half n) whole (l.take (l.length - 1)).reverse).1).a, w32 ((both old m (half n) whole (l.take (l.length - 1)).reverse).1).b, w32 ((both old m (half n) whole (l.take (l.length - 1)).reverse).1).c, w32 ((both old m (half n) whole (l.take (l.length - 1)).reverse).1).d]) (V := Dg.val ((both old m (half n) whole (l.take (l.length - 1)).reverse).1)) s16_27 s70_27 hbb16_27 (Nat.le_of_ble_eq_true rfl) rfl siz_24 rfl rfl (fun wd28 hX hz hbb16_28 => ?_))
      have hE_28 := hE_27.since hX (fun k e => e ▸ fr_b16)
      have hbb5_28 := hbb5_27.ext hX ne_b5_b16
      have hbb10_28 := hbb10_27.ext hX ne_b10_b16
      have hbb11_28 := hbb11_27.ext hX ne_b11_b16
      have hbb13_28 := hbb13_27.ext hX ne_b13_b16
      have hbb17_28 := hbb17_27.ext hX ne_b16_b17.symm
      have hsx1_28 := SlT.over hsx1_27 hX nb_x1_b16
      have hsx14_28 := SlT.over hsx14_27 hX nb_x14_b16
      clear hX hz hE_27 hbb5_27 hbb10_27 hbb11_27 hbb13_27 hbb16_27 hbb17_27 hsx1_27 hsx14_27
      refine tail_none rfl rfl (does_storeD (o := 0) (n := 4) (cs' := [w32 ((both old m (half n) whole (l.take (l.length - 1)).reverse).2.1).a, w32 ((both old m (half n) whole (l.take (l.length - 1)).reverse).2.1).b, w32 ((both old m (half n) whole (l.take (l.length - 1)).reverse).2.1).c, w32 ((both old m (half n) whole (l.take (l.length - 1)).reverse).2.1).d]) (V := Dg.val ((both old m (half n) whole (l.take (l.length - 1)).reverse).2.1)) s17_27 s71_27 hbb17_28 (Nat.le_of_ble_eq_true rfl) rfl siz_24 rfl rfl (fun wd29 hX hz hbb17_29 => ?_))
      have hE_29 := hE_28.since hX (fun k e => e ▸ fr_b17)
      have hbb5_29 := hbb5_28.ext hX ne_b5_b17
      have hbb10_29 := hbb10_28.ext hX ne_b10_b17
      have hbb11_29 := hbb11_28.ext hX ne_b11_b17
      have hbb13_29 := hbb13_28.ext hX ne_b13_b17
      have hbb16_29 := hbb16_28.ext hX ne_b16_b17
      have hsx1_29 := SlT.over hsx1_28 hX nb_x1_b17
      have hsx14_29 := SlT.over hsx14_28 hX nb_x14_b17
      clear hX hz hE_28 hbb5_28 hbb10_28 hbb11_28 hbb13_28 hbb16_28 hbb17_28 hsx1_28 hsx14_28
      refine tail_put rfl rfl hN_27 hD_27 (by decide) (does_assign (V := Value.bool ((both old m (half n) whole (l.take (l.length - 1)).reverse).2.2)) s72_27 (fun a30 hN_30 hD_30 hv hO => ?_))
      have s18_30 := hv
      have s10_30 := (hO 10 rfl).trans s10_27
      have s11_30 := (hO 11 rfl).trans s11_27
      have s13_30 := (hO 13 rfl).trans s13_27
      have s16_30 := (hO 16 rfl).trans s16_27
      have s17_30 := (hO 17 rfl).trans s17_27
      clear hO hv hN_27 hD_27 s10_27 s11_27 s13_27 s16_27 s17_27 s70_27 s71_27 s72_27
      refine tail_nil ?_
      refine wp_seq ?_
      refine region_late [] [(73, Pr.ex (Dg.val ((both old m (half n) whole (l.take (l.length - 1)).reverse).1))), (74, Pr.ex (Dg.val ((both old m (half n) whole (l.take (l.length - 1)).reverse).2.1))), (75, Pr.ex (Dg.val (z))), (76, Pr.ex (Dg.val (pair ((both old m (half n) whole (l.take (l.length - 1)).reverse).2.1) z))), (77, Pr.ex (Value.bool ((both old m (half n) whole (l.take (l.length - 1)).reverse).2.2)))] 5 [4] (fun k => k = b10 ∨ k = b11) mixed hN_30 hD_30 (by kernel_rfl) (by kernel_rfl) (by kernel_rfl) (by kernel_rfl) (fun d v c a w h => by cases d <;> exact h) ?_ ?_ ?_
      · refine Asks.cons ?_ (Asks.cons ?_ (Asks.cons ?_ (Asks.cons ?_ (Asks.cons ?_ (Asks.zero _)))))
        · refine Ask.plain rfl rfl ?_
          intro aq wq hNq hO hR hT
          replace hR := (Ext.drew _).trans hR
          exact does_loadD (o := 0) (n := 4) (mid := [w32 ((both old m (half n) whole (l.take (l.length - 1)).reverse).1).a, w32 ((both old m (half n) whole (l.take (l.length - 1)).reverse).1).b, w32 ((both old m (half n) whole (l.take (l.length - 1)).reverse).1).c, w32 ((both old m (half n) whole (l.take (l.length - 1)).reverse).1).d]) ((hO 16 rfl).trans s16_30) (hbb16_29.ext' hR) rfl rfl (Nat.le_of_ble_eq_true rfl) row_24 rfl ⟨Ext.refl _, rfl⟩
        · refine Ask.plain rfl rfl ?_
          intro aq wq hNq hO hR hT
          replace hR := (Ext.drew _).trans hR
          exact does_loadD (o := 0) (n := 4) (mid := [w32 ((both old m (half n) whole (l.take (l.length - 1)).reverse).2.1).a, w32 ((both old m (half n) whole (l.take (l.length - 1)).reverse).2.1).b, w32 ((both old m (half n) whole (l.take (l.length - 1)).reverse).2.1).c, w32 ((both old m (half n) whole (l.take (l.length - 1)).reverse).2.1).d]) ((hO 17 rfl).trans s17_30) (hbb17_29.ext' hR) rfl rfl (Nat.le_of_ble_eq_true rfl) row_24 rfl ⟨Ext.refl _, rfl⟩
        · refine Ask.plain rfl rfl ?_
          intro aq wq hNq hO hR hT
          replace hR := (Ext.drew _).trans hR
          exact does_loadD (o := 0) (n := 4) (mid := [w32 (z).a, w32 (z).b, w32 (z).c, w32 (z).d]) ((hO 13 rfl).trans s13_30) (hbb13_29.ext' hR) rfl rfl (Nat.le_of_ble_eq_true rfl) row_24 rfl ⟨Ext.refl _, rfl⟩
        · refine Ask.plain rfl rfl ?_
          intro aq wq hNq hO hR hT
          replace hR := (Ext.drew _).trans hR
          exact does_ret (vs := #[Dg.val ((both old m (half n) whole (l.take (l.length - 1)).reverse).2.1), Dg.val (z)]) call_17 (args2 (hT 74 rfl rfl) (hT 75 rfl rfl)) rfl ((pairR ((both old m (half n) whole (l.take (l.length - 1)).reverse).2.1) (z) wq).mono fun v w2 h => ⟨h.2, h.1⟩)
        · refine Ask.plain rfl rfl ?_
          intro aq wq hNq hO hR hT
          replace hR := (Ext.drew _).trans hR
          exact does_move (V := Value.bool ((both old m (half n) whole (l.take (l.length - 1)).reverse).2.2)) ((hO 18 rfl).trans s18_30) ⟨Ext.refl _, rfl⟩
      · refine LateAsks.cons rfl rfl rfl ?_ LateAsks.nil
        · intro aq wq hO hR hT
          have hR0 := hR
          replace hR := (Ext.drew _).trans hR
          exact ⟨_, yl_move (V := Value.bool ((both old m (half n) whole (l.take (l.length - 1)).reverse).2.2)) ((hO 18 rfl).trans s18_30), rfl⟩
      intro wl hwl hwh a31 wd31 hN_31 hD_31 hO hR hA hU
      have hS_31 : ExtE (fun k => k = b10 ∨ k = b11) wl wd31 := hR.toE
      replace hR := hwl.trans hR
      obtain ⟨t73, _, _, t76, t77, _⟩ := hA
      have hE_31 := hE_29.trans hR
      have s10_31 := (hO 10 rfl).trans s10_30
      have s11_31 := (hO 11 rfl).trans s11_30
      have hbb5_31 := hbb5_29.ext' hR
      have hbb10_31 := hbb10_29.ext' hR
      have hbb11_31 := hbb11_29.ext' hR
      have hbb13_31 := hbb13_29.ext' hR
      have hbb16_31 := hbb16_29.ext' hR
      have hbb17_31 := hbb17_29.ext' hR
      have hsx1_31 := hsx1_29.ext' hR
      have hsx14_31 := hsx14_29.ext' hR
      have s73_31 : get a31 73 = Dg.val ((both old m (half n) whole (l.take (l.length - 1)).reverse).1) := t73
      have s76_31 : get a31 76 = Dg.val (pair ((both old m (half n) whole (l.take (l.length - 1)).reverse).2.1) z) := t76
      have s77_31 : get a31 77 = Value.bool ((both old m (half n) whole (l.take (l.length - 1)).reverse).2.2) := t77
      clear hE_29 hN_30 hD_30 s10_30 s11_30 s13_30 s16_30 s17_30 s18_30 hbb5_29 hbb10_29 hbb11_29 hbb13_29 hbb16_29 hbb17_29 hsx1_29 hsx14_29
      refine tailS_none rfl rfl (does_storeD (o := 0) (n := 4) (cs' := [w32 ((both old m (half n) whole (l.take (l.length - 1)).reverse).1).a, w32 ((both old m (half n) whole (l.take (l.length - 1)).reverse).1).b, w32 ((both old m (half n) whole (l.take (l.length - 1)).reverse).1).c, w32 ((both old m (half n) whole (l.take (l.length - 1)).reverse).1).d]) (V := Dg.val ((both old m (half n) whole (l.take (l.length - 1)).reverse).1)) s10_31 s73_31 hbb10_31 (Nat.le_of_ble_eq_true rfl) rfl siz_24 rfl rfl (fun wd32 hX hz hbb10_32 => ⟨hS_31.trans (hX.mono fun k _ e => .inl e), ?_⟩))
      have hS_32 := hS_31.trans (hX.mono (E' := (fun k => k = b10 ∨ k = b11)) fun k _ e => .inl e)
      have hE_32 := hE_31.since hX (fun k e => e ▸ fr_b10)
      have hbb5_32 := hbb5_31.ext hX ne_b5_b10
      have hbb11_32 := hbb11_31.ext hX ne_b10_b11.symm
      have hbb13_32 := hbb13_31.ext hX ne_b10_b13.symm
      have hbb16_32 := hbb16_31.ext hX ne_b10_b16.symm
      have hbb17_32 := hbb17_31.ext hX ne_b10_b17.symm
      have hsx1_32 := SlT.over hsx1_31 hX nb_x1_b10
      have hsx14_32 := SlT.over hsx14_31 hX (SlT.low hsx14_31 fr_b10)
      clear hX hz hE_31 hbb5_31 hbb10_31 hbb11_31 hbb13_31 hbb16_31 hbb17_31 hsx1_31 hsx14_31
      refine tailS_none rfl rfl (does_storeD (o := 0) (n := 4) (cs' := [w32 (pair ((both old m (half n) whole (l.take (l.length - 1)).reverse).2.1) z).a, w32 (pair ((both old m (half n) whole (l.take (l.length - 1)).reverse).2.1) z).b, w32 (pair ((both old m (half n) whole (l.take (l.length - 1)).reverse).2.1) z).c, w32 (pair ((both old m (half n) whole (l.take (l.length - 1)).reverse).2.1) z).d]) (V := Dg.val (pair ((both old m (half n) whole (l.take (l.length - 1)).reverse).2.1) z)) s11_31 s76_31 hbb11_32 (Nat.le_of_ble_eq_true rfl) rfl siz_24 rfl rfl (fun wd33 hX hz hbb11_33 => ⟨hS_32.trans (hX.mono fun k _ e => .inr e), ?_⟩))
      have hS_33 := hS_32.trans (hX.mono (E' := (fun k => k = b10 ∨ k = b11)) fun k _ e => .inr e)
      have hE_33 := hE_32.since hX (fun k e => e ▸ fr_b11)
      have hbb5_33 := hbb5_32.ext hX ne_b5_b11
      have hbb10_33 := hbb10_32.ext hX ne_b10_b11
      have hbb13_33 := hbb13_32.ext hX ne_b11_b13.symm
      have hbb16_33 := hbb16_32.ext hX ne_b11_b16.symm
      have hbb17_33 := hbb17_32.ext hX ne_b11_b17.symm
      have hsx1_33 := SlT.over hsx1_32 hX nb_x1_b11
      have hsx14_33 := SlT.over hsx14_32 hX (SlT.low hsx14_32 fr_b11)
      clear hX hz hE_32 hbb5_32 hbb10_32 hbb11_32 hbb13_32 hbb16_32 hbb17_32 hsx1_32 hsx14_32
      refine tailS_put rfl rfl hN_31 hD_31 (by decide) (does_assign (V := Value.bool ((both old m (half n) whole (l.take (l.length - 1)).reverse).2.2)) s77_31 (⟨hS_33, fun a34 hN_34 hD_34 hv hO => ?_⟩))
      have s12_34 := hv
      have s10_34 := (hO 10 rfl).trans s10_31
      have s11_34 := (hO 11 rfl).trans s11_31
      clear hO hv hN_31 hD_31 s10_31 s11_31 s73_31 s76_31 s77_31
      refine tailS_nil ?_
      refine wp_ret ?_
      refine res_three (V1 := Dg.val ((both old m (half n) whole (l.take (l.length - 1)).reverse).1)) (V2 := Dg.val (pair ((both old m (half n) whole (l.take (l.length - 1)).reverse).2.1) z)) (V3 := Value.bool ((both old m (half n) whole (l.take (l.length - 1)).reverse).2.2)) rfl hD_34 (ResIs.cell s10_34 hbb10_33 row_24 rfl rfl) (ResIs.cell s11_34 hbb11_33 row_24 rfl rfl) s12_34 ?_
      have hr := rev_of hz (by omega)
      exact ⟨by show Value.tuple _ = Value.tuple _; rw [hr, both_lo1 h2 hlo, both_lo2 h2 hlo, both_lo3 h2 hlo], hE_33⟩
    have hc4 := of_decide_eq_false hc4
    have hhi : ¬ m ≤ half n := by omega
    refine wp_skip ?_
    refine wp_seq ?_
    refine region_lex [19, 20] [(79, Pr.ex (Dg.val (old))), (80, Pr.ex (i64 ((m : Nat) : Int))), (81, Pr.ex (i64 ((half n : Nat) : Int))), (82, Pr.ex (i64 ((m - (half n) : Nat) : Int))), (83, Pr.ex (i64 ((n : Nat) : Int))), (84, Pr.ex (i64 ((half n : Nat) : Int))), (85, Pr.ex (i64 ((n - (half n) : Nat) : Int))), (86, Pr.ex (x14)), (87, Pr.ex (Value.tuple #[Dg.val ((both old (m - (half n)) (n - (half n)) false (l.take (l.length - 1)).reverse).1), Dg.val ((both old (m - (half n)) (n - (half n)) false (l.take (l.length - 1)).reverse).2.1), Value.bool ((both old (m - (half n)) (n - (half n)) false (l.take (l.length - 1)).reverse).2.2)])), (78, Pr.ex (Value.tuple #[Dg.val ((both old (m - (half n)) (n - (half n)) false (l.take (l.length - 1)).reverse).1), Dg.val ((both old (m - (half n)) (n - (half n)) false (l.take (l.length - 1)).reverse).2.1), Value.bool ((both old (m - (half n)) (n - (half n)) false (l.take (l.length - 1)).reverse).2.2)])), (88, Pr.ex (Dg.val ((both old (m - (half n)) (n - (half n)) false (l.take (l.length - 1)).reverse).1))), (89, Pr.ex (Dg.val ((both old (m - (half n)) (n - (half n)) false (l.take (l.length - 1)).reverse).2.1))), (90, Pr.ex (Value.bool ((both old (m - (half n)) (n - (half n)) false (l.take (l.length - 1)).reverse).2.2))), (19, Pr.box' wd26.heap.size 24 [w32 (Dg.zero).a, w32 (Dg.zero).b, w32 (Dg.zero).c, w32 (Dg.zero).d]), (20, Pr.box' wd26.heap.size 24 [w32 (Dg.zero).a, w32 (Dg.zero).b, w32 (Dg.zero).c, w32 (Dg.zero).d])] 15 hN_26 hD_26 (by kernel_rfl) (by kernel_rfl) ?_ ?_
    · refine Asks.cons ?_ (Asks.cons ?_ (Asks.cons ?_ (Asks.cons ?_ (Asks.cons ?_ (Asks.cons ?_ (Asks.cons ?_ (Asks.cons ?_ (Asks.cons ?_ (Asks.cons ?_ (Asks.cons ?_ (Asks.cons ?_ (Asks.cons ?_ (Asks.cons ?_ (Asks.cons ?_ (Asks.zero _)))))))))))))))
      · refine Ask.plain rfl rfl ?_
        intro aq wq hNq hO hR hT
        exact does_loadD (o := 0) (n := 4) (mid := [w32 (old).a, w32 (old).b, w32 (old).c, w32 (old).d]) ((hO 5 rfl).trans s5_26) (hbb5_26.ext' hR) rfl rfl (Nat.le_of_ble_eq_true rfl) row_24 rfl ⟨Ext.refl _, rfl⟩
      · refine Ask.plain rfl rfl ?_
        intro aq wq hNq hO hR hT
        exact does_move (V := i64 ((m : Nat) : Int)) ((hO 1 rfl).trans s1_26) ⟨Ext.refl _, rfl⟩
      · refine Ask.plain rfl rfl ?_
        intro aq wq hNq hO hR hT
        exact does_move (V := i64 ((half n : Nat) : Int)) ((hO 15 rfl).trans s15_26) ⟨Ext.refl _, rfl⟩
      · refine Ask.plain rfl rfl ?_
        intro aq wq hNq hO hR hT
        exact does_sub (a := ((m : Nat) : Int)) (b := ((half n : Nat) : Int)) (r := ((m - (half n) : Nat) : Int)) (hT 80 rfl rfl) (hT 81 rfl rfl) (by omega) (by omega) (by omega) ⟨Ext.refl _, rfl⟩
      · refine Ask.plain rfl rfl ?_
        intro aq wq hNq hO hR hT
        exact does_move (V := i64 ((n : Nat) : Int)) ((hO 2 rfl).trans s2_26) ⟨Ext.refl _, rfl⟩
      · refine Ask.plain rfl rfl ?_
        intro aq wq hNq hO hR hT
        exact does_move (V := i64 ((half n : Nat) : Int)) ((hO 15 rfl).trans s15_26) ⟨Ext.refl _, rfl⟩
      · refine Ask.plain rfl rfl ?_
        intro aq wq hNq hO hR hT
        exact does_sub (a := ((n : Nat) : Int)) (b := ((half n : Nat) : Int)) (r := ((n - (half n) : Nat) : Int)) (hT 83 rfl rfl) (hT 84 rfl rfl) (by omega) (by omega) (by omega) ⟨Ext.refl _, rfl⟩
      · refine Ask.plain rfl rfl ?_
        intro aq wq hNq hO hR hT
        exact does_move (V := x14) ((hO 14 rfl).trans s14_26) ⟨Ext.refl _, rfl⟩
      · refine Ask.plain rfl rfl ?_
        intro aq wq hNq hO hR hT
        exact does_ret (vs := #[Dg.val (old), i64 ((m - (half n) : Nat) : Int), i64 ((n - (half n) : Nat) : Int), Value.bool (false), x14]) call_43 (args5 (hT 79 rfl rfl) (hT 82 rfl rfl) (hT 85 rfl rfl) rfl (hT 86 rfl rfl)) rfl ((ih _ (by omega) (m - (half n)) (n - (half n)) false old (l.take (l.length - 1)) (x14) wq ((hsx14_26.ext' hR).wide (Nat.zero_le _) (.inl rfl)) (by omega) (by omega) (by omega) (by simp only [List.length_take]; omega) rfl).mono fun v w2 h => ⟨h.2, h.1⟩)
      · refine Ask.plain rfl rfl ?_
        intro aq wq hNq hO hR hT
        exact does_move (V := Value.tuple #[Dg.val ((both old (m - (half n)) (n - (half n)) false (l.take (l.length - 1)).reverse).1), Dg.val ((both old (m - (half n)) (n - (half n)) false (l.take (l.length - 1)).reverse).2.1), Value.bool ((both old (m - (half n)) (n - (half n)) false (l.take (l.length - 1)).reverse).2.2)]) (hT 87 rfl rfl) ⟨Ext.refl _, rfl⟩
      · refine Ask.plain rfl rfl ?_
        intro aq wq hNq hO hR hT
        exact does_extract (V := Dg.val ((both old (m - (half n)) (n - (half n)) false (l.take (l.length - 1)).reverse).1)) (hT 78 rfl rfl) rfl ⟨Ext.refl _, rfl⟩
      · refine Ask.plain rfl rfl ?_
        intro aq wq hNq hO hR hT
        exact does_extract (V := Dg.val ((both old (m - (half n)) (n - (half n)) false (l.take (l.length - 1)).reverse).2.1)) (hT 78 rfl rfl) rfl ⟨Ext.refl _, rfl⟩
      · refine Ask.plain rfl rfl ?_
        intro aq wq hNq hO hR hT
        exact does_extract (V := Value.bool ((both old (m - (half n)) (n - (half n)) false (l.take (l.length - 1)).reverse).2.2)) (hT 78 rfl rfl) rfl ⟨Ext.refl _, rfl⟩
      · refine Ask.fresh rfl rfl ?_
        intro aq wq hNq hO hR hT
        exact does_alloc zero_24 (fun b w2 he hlo hb => ⟨he, ⟨b, rfl, Nat.le_trans hR.size' hlo, hb⟩, ⟨b, rfl, hlo, hb.lt⟩⟩)
      · refine Ask.fresh rfl rfl ?_
        intro aq wq hNq hO hR hT
        exact does_alloc zero_24 (fun b w2 he hlo hb => ⟨he, ⟨b, rfl, Nat.le_trans hR.size' hlo, hb⟩, ⟨b, rfl, hlo, hb.lt⟩⟩)
    intro a35 wd35 hN_35 hD_35 hO hR hA hU
    obtain ⟨_, _, _, _, _, _, _, _, _, _, t88, t89, t90, t19, t20, _⟩ := hA
    have hE_35 := hE_26.trans hR
    have s10_35 := (hO 10 rfl).trans s10_26
    have s11_35 := (hO 11 rfl).trans s11_26
    have s13_35 := (hO 13 rfl).trans s13_26
    have hbb5_35 := hbb5_26.ext' hR
    have hbb10_35 := hbb10_26.ext' hR
    have hbb11_35 := hbb11_26.ext' hR
    have hbb13_35 := hbb13_26.ext' hR
    have hsx1_35 := hsx1_26.ext' hR
    have hsx14_35 := hsx14_26.ext' hR
    have s88_35 : get a35 88 = Dg.val ((both old (m - (half n)) (n - (half n)) false (l.take (l.length - 1)).reverse).1) := t88
    have s89_35 : get a35 89 = Dg.val ((both old (m - (half n)) (n - (half n)) false (l.take (l.length - 1)).reverse).2.1) := t89
    have s90_35 : get a35 90 = Value.bool ((both old (m - (half n)) (n - (half n)) false (l.take (l.length - 1)).reverse).2.2) := t90
    obtain ⟨b19, s19_35, lo_b19, hbb19_35⟩ := t19
    have ne_b5_b19 : b5 ≠ b19 := fun e => Nat.lt_irrefl _ (Nat.lt_of_lt_of_le hbb5_26.lt (e ▸ lo_b19))
    have ne_b10_b19 : b10 ≠ b19 := fun e => Nat.lt_irrefl _ (Nat.lt_of_lt_of_le hbb10_26.lt (e ▸ lo_b19))
    have ne_b11_b19 : b11 ≠ b19 := fun e => Nat.lt_irrefl _ (Nat.lt_of_lt_of_le hbb11_26.lt (e ▸ lo_b19))
    have ne_b13_b19 : b13 ≠ b19 := fun e => Nat.lt_irrefl _ (Nat.lt_of_lt_of_le hbb13_26.lt (e ▸ lo_b19))
    have nb_x1_b19 := SlT.old hsx1_26 lo_b19
    have nb_x14_b19 := SlT.old hsx14_26 lo_b19
    have fr_b19 : w0.heap.size ≤ b19 := Nat.le_trans hE_26.size' lo_b19
    obtain ⟨b20, s20_35, lo_b20, hbb20_35⟩ := t20
    have ne_b5_b20 : b5 ≠ b20 := fun e => Nat.lt_irrefl _ (Nat.lt_of_lt_of_le hbb5_26.lt (e ▸ lo_b20))
    have ne_b10_b20 : b10 ≠ b20 := fun e => Nat.lt_irrefl _ (Nat.lt_of_lt_of_le hbb10_26.lt (e ▸ lo_b20))
    have ne_b11_b20 : b11 ≠ b20 := fun e => Nat.lt_irrefl _ (Nat.lt_of_lt_of_le hbb11_26.lt (e ▸ lo_b20))
    have ne_b13_b20 : b13 ≠ b20 := fun e => Nat.lt_irrefl _ (Nat.lt_of_lt_of_le hbb13_26.lt (e ▸ lo_b20))
    have nb_x1_b20 := SlT.old hsx1_26 lo_b20
    have nb_x14_b20 := SlT.old hsx14_26 lo_b20
    have fr_b20 : w0.heap.size ≤ b20 := Nat.le_trans hE_26.size' lo_b20
    obtain ⟨u0, ⟨u1, _⟩⟩ := hU
    have ne_b19_b20 : b19 ≠ b20 := fun e => u0 20 (by decide) (by rw [s19_35, s20_35, e])
    clear hE_26 hN_26 hD_26 s1_26 s2_26 s3_26 s5_26 s10_26 s11_26 s13_26 s14_26 s15_26 s62_26 hbb5_26 hbb10_26 hbb11_26 hbb13_26 hsx1_26 hsx14_26
    refine tail_none rfl rfl (does_storeD (o := 0) (n := 4) (cs' := [w32 ((both old (m - (half n)) (n - (half n)) false (l.take (l.length - 1)).reverse).1).a, w32 ((both old (m - (half n)) (n - (half n)) false (l.take (l.length - 1)).reverse).1).b, w32 ((both old (m - (half n)) (n - (half n)) false (l.take (l.length - 1)).reverse).1).c, w32 ((both old (m - (half n)) (n - (half n)) false (l.take (l.length - 1)).reverse).1).d]) (V := Dg.val ((both old (m - (half n)) (n - (half n)) false (l.take (l.length - 1)).reverse).1)) s19_35 s88_35 hbb19_35 (Nat.le_of_ble_eq_true rfl) rfl siz_24 rfl rfl (fun wd36 hX hz hbb19_36 => ?_))
    have hE_36 := hE_35.since hX (fun k e => e ▸ fr_b19)
    have hbb5_36 := hbb5_35.ext hX ne_b5_b19
    have hbb10_36 := hbb10_35.ext hX ne_b10_b19
    have hbb11_36 := hbb11_35.ext hX ne_b11_b19
    have hbb13_36 := hbb13_35.ext hX ne_b13_b19
    have hbb20_36 := hbb20_35.ext hX ne_b19_b20.symm
    have hsx1_36 := SlT.over hsx1_35 hX nb_x1_b19
    have hsx14_36 := SlT.over hsx14_35 hX nb_x14_b19
    clear hX hz hE_35 hbb5_35 hbb10_35 hbb11_35 hbb13_35 hbb19_35 hbb20_35 hsx1_35 hsx14_35
    refine tail_none rfl rfl (does_storeD (o := 0) (n := 4) (cs' := [w32 ((both old (m - (half n)) (n - (half n)) false (l.take (l.length - 1)).reverse).2.1).a, w32 ((both old (m - (half n)) (n - (half n)) false (l.take (l.length - 1)).reverse).2.1).b, w32 ((both old (m - (half n)) (n - (half n)) false (l.take (l.length - 1)).reverse).2.1).c, w32 ((both old (m - (half n)) (n - (half n)) false (l.take (l.length - 1)).reverse).2.1).d]) (V := Dg.val ((both old (m - (half n)) (n - (half n)) false (l.take (l.length - 1)).reverse).2.1)) s20_35 s89_35 hbb20_36 (Nat.le_of_ble_eq_true rfl) rfl siz_24 rfl rfl (fun wd37 hX hz hbb20_37 => ?_))
    have hE_37 := hE_36.since hX (fun k e => e ▸ fr_b20)
    have hbb5_37 := hbb5_36.ext hX ne_b5_b20
    have hbb10_37 := hbb10_36.ext hX ne_b10_b20
    have hbb11_37 := hbb11_36.ext hX ne_b11_b20
    have hbb13_37 := hbb13_36.ext hX ne_b13_b20
    have hbb19_37 := hbb19_36.ext hX ne_b19_b20
    have hsx1_37 := SlT.over hsx1_36 hX nb_x1_b20
    have hsx14_37 := SlT.over hsx14_36 hX nb_x14_b20
    clear hX hz hE_36 hbb5_36 hbb10_36 hbb11_36 hbb13_36 hbb19_36 hbb20_36 hsx1_36 hsx14_36
    refine tail_put rfl rfl hN_35 hD_35 (by decide) (does_assign (V := Value.bool ((both old (m - (half n)) (n - (half n)) false (l.take (l.length - 1)).reverse).2.2)) s90_35 (fun a38 hN_38 hD_38 hv hO => ?_))
    have s21_38 := hv
    have s10_38 := (hO 10 rfl).trans s10_35
    have s11_38 := (hO 11 rfl).trans s11_35
    have s13_38 := (hO 13 rfl).trans s13_35
    have s19_38 := (hO 19 rfl).trans s19_35
    have s20_38 := (hO 20 rfl).trans s20_35
    clear hO hv hN_35 hD_35 s10_35 s11_35 s13_35 s19_35 s20_35 s88_35 s89_35 s90_35
    refine tail_nil ?_
    refine wp_seq ?_
    refine region_late [] [(91, Pr.ex (Dg.val (z))), (92, Pr.ex (Dg.val ((both old (m - (half n)) (n - (half n)) false (l.take (l.length - 1)).reverse).1))), (93, Pr.ex (Dg.val (pair z ((both old (m - (half n)) (n - (half n)) false (l.take (l.length - 1)).reverse).1)))), (94, Pr.ex (Dg.val (z))), (95, Pr.ex (Dg.val ((both old (m - (half n)) (n - (half n)) false (l.take (l.length - 1)).reverse).2.1))), (96, Pr.ex (Dg.val (pair z ((both old (m - (half n)) (n - (half n)) false (l.take (l.length - 1)).reverse).2.1)))), (97, Pr.ex (Value.bool ((both old (m - (half n)) (n - (half n)) false (l.take (l.length - 1)).reverse).2.2)))] 7 [6] (fun k => k = b10 ∨ k = b11) mixed hN_38 hD_38 (by kernel_rfl) (by kernel_rfl) (by kernel_rfl) (by kernel_rfl) (fun d v c a w h => by cases d <;> exact h) ?_ ?_ ?_
    · refine Asks.cons ?_ (Asks.cons ?_ (Asks.cons ?_ (Asks.cons ?_ (Asks.cons ?_ (Asks.cons ?_ (Asks.cons ?_ (Asks.zero _)))))))
      · refine Ask.plain rfl rfl ?_
        intro aq wq hNq hO hR hT
        replace hR := (Ext.drew _).trans hR
        exact does_loadD (o := 0) (n := 4) (mid := [w32 (z).a, w32 (z).b, w32 (z).c, w32 (z).d]) ((hO 13 rfl).trans s13_38) (hbb13_37.ext' hR) rfl rfl (Nat.le_of_ble_eq_true rfl) row_24 rfl ⟨Ext.refl _, rfl⟩
      · refine Ask.plain rfl rfl ?_
        intro aq wq hNq hO hR hT
        replace hR := (Ext.drew _).trans hR
        exact does_loadD (o := 0) (n := 4) (mid := [w32 ((both old (m - (half n)) (n - (half n)) false (l.take (l.length - 1)).reverse).1).a, w32 ((both old (m - (half n)) (n - (half n)) false (l.take (l.length - 1)).reverse).1).b, w32 ((both old (m - (half n)) (n - (half n)) false (l.take (l.length - 1)).reverse).1).c, w32 ((both old (m - (half n)) (n - (half n)) false (l.take (l.length - 1)).reverse).1).d]) ((hO 19 rfl).trans s19_38) (hbb19_37.ext' hR) rfl rfl (Nat.le_of_ble_eq_true rfl) row_24 rfl ⟨Ext.refl _, rfl⟩
      · refine Ask.plain rfl rfl ?_
        intro aq wq hNq hO hR hT
        replace hR := (Ext.drew _).trans hR
        exact does_ret (vs := #[Dg.val (z), Dg.val ((both old (m - (half n)) (n - (half n)) false (l.take (l.length - 1)).reverse).1)]) call_17 (args2 (hT 91 rfl rfl) (hT 92 rfl rfl)) rfl ((pairR (z) ((both old (m - (half n)) (n - (half n)) false (l.take (l.length - 1)).reverse).1) wq).mono fun v w2 h => ⟨h.2, h.1⟩)
      · refine Ask.plain rfl rfl ?_
        intro aq wq hNq hO hR hT
        replace hR := (Ext.drew _).trans hR
        exact does_loadD (o := 0) (n := 4) (mid := [w32 (z).a, w32 (z).b, w32 (z).c, w32 (z).d]) ((hO 13 rfl).trans s13_38) (hbb13_37.ext' hR) rfl rfl (Nat.le_of_ble_eq_true rfl) row_24 rfl ⟨Ext.refl _, rfl⟩
      · refine Ask.plain rfl rfl ?_
        intro aq wq hNq hO hR hT
        replace hR := (Ext.drew _).trans hR
        exact does_loadD (o := 0) (n := 4) (mid := [w32 ((both old (m - (half n)) (n - (half n)) false (l.take (l.length - 1)).reverse).2.1).a, w32 ((both old (m - (half n)) (n - (half n)) false (l.take (l.length - 1)).reverse).2.1).b, w32 ((both old (m - (half n)) (n - (half n)) false (l.take (l.length - 1)).reverse).2.1).c, w32 ((both old (m - (half n)) (n - (half n)) false (l.take (l.length - 1)).reverse).2.1).d]) ((hO 20 rfl).trans s20_38) (hbb20_37.ext' hR) rfl rfl (Nat.le_of_ble_eq_true rfl) row_24 rfl ⟨Ext.refl _, rfl⟩
      · refine Ask.plain rfl rfl ?_
        intro aq wq hNq hO hR hT
        replace hR := (Ext.drew _).trans hR
        exact does_ret (vs := #[Dg.val (z), Dg.val ((both old (m - (half n)) (n - (half n)) false (l.take (l.length - 1)).reverse).2.1)]) call_17 (args2 (hT 94 rfl rfl) (hT 95 rfl rfl)) rfl ((pairR (z) ((both old (m - (half n)) (n - (half n)) false (l.take (l.length - 1)).reverse).2.1) wq).mono fun v w2 h => ⟨h.2, h.1⟩)
      · refine Ask.plain rfl rfl ?_
        intro aq wq hNq hO hR hT
        replace hR := (Ext.drew _).trans hR
        exact does_move (V := Value.bool ((both old (m - (half n)) (n - (half n)) false (l.take (l.length - 1)).reverse).2.2)) ((hO 21 rfl).trans s21_38) ⟨Ext.refl _, rfl⟩
    · refine LateAsks.cons rfl rfl rfl ?_ LateAsks.nil
      · intro aq wq hO hR hT
        have hR0 := hR
        replace hR := (Ext.drew _).trans hR
        exact ⟨_, yl_move (V := Value.bool ((both old (m - (half n)) (n - (half n)) false (l.take (l.length - 1)).reverse).2.2)) ((hO 21 rfl).trans s21_38), rfl⟩
    intro wl hwl hwh a39 wd39 hN_39 hD_39 hO hR hA hU
    have hS_39 : ExtE (fun k => k = b10 ∨ k = b11) wl wd39 := hR.toE
    replace hR := hwl.trans hR
    obtain ⟨_, _, t93, _, _, t96, t97, _⟩ := hA
    have hE_39 := hE_37.trans hR
    have s10_39 := (hO 10 rfl).trans s10_38
    have s11_39 := (hO 11 rfl).trans s11_38
    have hbb5_39 := hbb5_37.ext' hR
    have hbb10_39 := hbb10_37.ext' hR
    have hbb11_39 := hbb11_37.ext' hR
    have hbb13_39 := hbb13_37.ext' hR
    have hbb19_39 := hbb19_37.ext' hR
    have hbb20_39 := hbb20_37.ext' hR
    have hsx1_39 := hsx1_37.ext' hR
    have hsx14_39 := hsx14_37.ext' hR
    have s93_39 : get a39 93 = Dg.val (pair z ((both old (m - (half n)) (n - (half n)) false (l.take (l.length - 1)).reverse).1)) := t93
    have s96_39 : get a39 96 = Dg.val (pair z ((both old (m - (half n)) (n - (half n)) false (l.take (l.length - 1)).reverse).2.1)) := t96
    have s97_39 : get a39 97 = Value.bool ((both old (m - (half n)) (n - (half n)) false (l.take (l.length - 1)).reverse).2.2) := t97
    clear hE_37 hN_38 hD_38 s10_38 s11_38 s13_38 s19_38 s20_38 s21_38 hbb5_37 hbb10_37 hbb11_37 hbb13_37 hbb19_37 hbb20_37 hsx1_37 hsx14_37
    refine tailS_none rfl rfl (does_storeD (o := 0) (n := 4) (cs' := [w32 (pair z ((both old (m - (half n)) (n - (half n)) false (l.take (l.length - 1)).reverse).1)).a, w32 (pair z ((both old (m - (half n)) (n - (half n)) false (l.take (l.length - 1)).reverse).1)).b, w32 (pair z ((both old (m - (half n)) (n - (half n)) false (l.take (l.length - 1)).reverse).1)).c, w32 (pair z ((both old (m - (half n)) (n - (half n)) false (l.take (l.length - 1)).reverse).1)).d]) (V := Dg.val (pair z ((both old (m - (half n)) (n - (half n)) false (l.take (l.length - 1)).reverse).1))) s10_39 s93_39 hbb10_39 (Nat.le_of_ble_eq_true rfl) rfl siz_24 rfl rfl (fun wd40 hX hz hbb10_40 => ⟨hS_39.trans (hX.mono fun k _ e => .inl e), ?_⟩))
    have hS_40 := hS_39.trans (hX.mono (E' := (fun k => k = b10 ∨ k = b11)) fun k _ e => .inl e)
    have hE_40 := hE_39.since hX (fun k e => e ▸ fr_b10)
    have hbb5_40 := hbb5_39.ext hX ne_b5_b10
    have hbb11_40 := hbb11_39.ext hX ne_b10_b11.symm
    have hbb13_40 := hbb13_39.ext hX ne_b10_b13.symm
    have hbb19_40 := hbb19_39.ext hX ne_b10_b19.symm
    have hbb20_40 := hbb20_39.ext hX ne_b10_b20.symm
    have hsx1_40 := SlT.over hsx1_39 hX nb_x1_b10
    have hsx14_40 := SlT.over hsx14_39 hX (SlT.low hsx14_39 fr_b10)
    clear hX hz hE_39 hbb5_39 hbb10_39 hbb11_39 hbb13_39 hbb19_39 hbb20_39 hsx1_39 hsx14_39
    refine tailS_none rfl rfl (does_storeD (o := 0) (n := 4) (cs' := [w32 (pair z ((both old (m - (half n)) (n - (half n)) false (l.take (l.length - 1)).reverse).2.1)).a, w32 (pair z ((both old (m - (half n)) (n - (half n)) false (l.take (l.length - 1)).reverse).2.1)).b, w32 (pair z ((both old (m - (half n)) (n - (half n)) false (l.take (l.length - 1)).reverse).2.1)).c, w32 (pair z ((both old (m - (half n)) (n - (half n)) false (l.take (l.length - 1)).reverse).2.1)).d]) (V := Dg.val (pair z ((both old (m - (half n)) (n - (half n)) false (l.take (l.length - 1)).reverse).2.1))) s11_39 s96_39 hbb11_40 (Nat.le_of_ble_eq_true rfl) rfl siz_24 rfl rfl (fun wd41 hX hz hbb11_41 => ⟨hS_40.trans (hX.mono fun k _ e => .inr e), ?_⟩))
    have hS_41 := hS_40.trans (hX.mono (E' := (fun k => k = b10 ∨ k = b11)) fun k _ e => .inr e)
    have hE_41 := hE_40.since hX (fun k e => e ▸ fr_b11)
    have hbb5_41 := hbb5_40.ext hX ne_b5_b11
    have hbb10_41 := hbb10_40.ext hX ne_b10_b11
    have hbb13_41 := hbb13_40.ext hX ne_b11_b13.symm
    have hbb19_41 := hbb19_40.ext hX ne_b11_b19.symm
    have hbb20_41 := hbb20_40.ext hX ne_b11_b20.symm
    have hsx1_41 := SlT.over hsx1_40 hX nb_x1_b11
    have hsx14_41 := SlT.over hsx14_40 hX (SlT.low hsx14_40 fr_b11)
    clear hX hz hE_40 hbb5_40 hbb10_40 hbb11_40 hbb13_40 hbb19_40 hbb20_40 hsx1_40 hsx14_40
    refine tailS_put rfl rfl hN_39 hD_39 (by decide) (does_assign (V := Value.bool ((both old (m - (half n)) (n - (half n)) false (l.take (l.length - 1)).reverse).2.2)) s97_39 (⟨hS_41, fun a42 hN_42 hD_42 hv hO => ?_⟩))
    have s12_42 := hv
    have s10_42 := (hO 10 rfl).trans s10_39
    have s11_42 := (hO 11 rfl).trans s11_39
    clear hO hv hN_39 hD_39 s10_39 s11_39 s93_39 s96_39 s97_39
    refine tailS_nil ?_
    refine wp_ret ?_
    refine res_three (V1 := Dg.val (pair z ((both old (m - (half n)) (n - (half n)) false (l.take (l.length - 1)).reverse).1))) (V2 := Dg.val (pair z ((both old (m - (half n)) (n - (half n)) false (l.take (l.length - 1)).reverse).2.1))) (V3 := Value.bool ((both old (m - (half n)) (n - (half n)) false (l.take (l.length - 1)).reverse).2.2)) rfl hD_42 (ResIs.cell s10_42 hbb10_41 row_24 rfl rfl) (ResIs.cell s11_42 hbb11_41 row_24 rfl rfl) s12_42 ?_
    have hr := rev_of hz (by omega)
    exact ⟨by show Value.tuple _ = Value.tuple _; rw [hr, both_hi1 h2 hhi, both_hi2 h2 hhi, both_hi3 h2 hhi], hE_41⟩
theorem onR (m n : Nat) (whole : Bool) (old : Dg) (l : List Dg) (x1 : Value) (w0 : World) (hx1 : SlT DG 0 0 l x1 w0) (h1 : 1 ≤ m) (hm : m ≤ n) (hnn : n ≤ 100000) (hn : l.length ≤ 100000) :
    Gives Tryd.prog 43 #[Dg.val (old), i64 ((m : Nat) : Int), i64 ((n : Nat) : Int), Value.bool (whole), x1] w0 (Pr.ex (Value.tuple #[Dg.val (both old m n whole l.reverse).1, Dg.val (both old m n whole l.reverse).2.1, Value.bool (both old m n whole l.reverse).2.2])) := onR_r _ m n whole old l x1 w0 hx1 h1 hm hnn hn rfl

theorem onRI (m n : Int) (whole : Bool) (old : Dg) (l : List Dg) (x1 : Value) (w0 : World) (hx1 : SlT DG 0 0 l x1 w0) (h1 : 1 ≤ m) (hm : m ≤ n) (hnn : n ≤ 100000) (hn : l.length ≤ 100000) :
    Gives Tryd.prog 43 #[Dg.val (old), i64 (m), i64 (n), Value.bool (whole), x1] w0 (Pr.ex (Value.tuple #[Dg.val (both old m.toNat n.toNat whole l.reverse).1, Dg.val (both old m.toNat n.toNat whole l.reverse).2.1, Value.bool (both old m.toNat n.toNat whole l.reverse).2.2])) := by
  obtain ⟨j, rfl⟩ : ∃ j : Nat, m = j := ⟨m.toNat, by omega⟩
  obtain ⟨k, rfl⟩ : ∃ k : Nat, n = k := ⟨n.toNat, by omega⟩
  exact onR j k whole old l x1 w0 hx1 (by omega) (by omega) (by omega) hn

end Go.Proofs.YtncamojfjhbanaaDoor
