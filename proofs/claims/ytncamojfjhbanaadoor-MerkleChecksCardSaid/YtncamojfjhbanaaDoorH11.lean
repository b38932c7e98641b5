/- The walks of functions of the program: printed. -/
import Derived.Test.YtncamojfjhbanaaDoorG51
import Derived.Test.YtncamojfjhbanaaDoorG52
import Derived.Test.YtncamojfjhbanaaDoorF0
set_option maxRecDepth 100000
namespace Go.Proofs.YtncamojfjhbanaaDoor
open Go Go.RowKit Sk Sd
theorem call_10 : Callable Tryd.prog 10 := ⟨_, Tryd.func10, by kernel_rfl, rfl⟩
theorem fld_41_4 : FieldIs Tryd.prog 41 4 10 := ⟨_, _, 0, Tryd.underlying41, rfl, rfl, by kernel_rfl⟩
theorem fld_41_0 : FieldIs Tryd.prog 41 0 0 := ⟨_, _, 3, Tryd.underlying41, rfl, rfl, by kernel_rfl⟩
theorem fld_41_2 : FieldIs Tryd.prog 41 2 8 := ⟨_, _, 0, Tryd.underlying41, rfl, rfl, by kernel_rfl⟩
theorem fld_41_3 : FieldIs Tryd.prog 41 3 9 := ⟨_, _, 0, Tryd.underlying41, rfl, rfl, by kernel_rfl⟩
theorem fld_41_1 : FieldIs Tryd.prog 41 1 4 := ⟨_, _, 3, Tryd.underlying41, rfl, rfl, by kernel_rfl⟩
theorem call_20 : Callable Tryd.prog 20 := ⟨_, Tryd.func20, by kernel_rfl, rfl⟩
theorem call_21 : Callable Tryd.prog 21 := ⟨_, Tryd.func21, by kernel_rfl, rfl⟩
theorem checksLaw (r leaf : Dg) (n i : Int) (l : List Dg) (x1 : Value) (w0 : World) (hL : Laid w0) (hx1 : SlT DG 0 0 l x1 w0) :
    Gives Tryd.prog 6 #[Value.agg #[w32 (r).a, w32 (r).b, w32 (r).c, w32 (r).d, w32 (leaf).a, w32 (leaf).b, w32 (leaf).c, w32 (leaf).d, i64 (n), i64 (i), x1]] w0 (Pr.ex (Value.bool true)) := by
  refine enter (N := 32) Tryd.func6 rfl rfl ?_
  intro a0 hN_0 hD_0 hA
  have s0_0 : get a0 0 = Value.agg #[w32 (r).a, w32 (r).b, w32 (r).c, w32 (r).d, w32 (leaf).a, w32 (leaf).b, w32 (leaf).c, w32 (leaf).d, i64 (n), i64 (i), x1] := hA 0 _ rfl
  clear hA
  have hE_0 : Ext w0 w0 := Ext.refl w0
  have hsx1_0 := hx1.close
  refine wp_seq ?_
  refine region_lex [1] [(1, Pr.box' w0.heap.size 41 [w32 (r).a, w32 (r).b, w32 (r).c, w32 (r).d, w32 (leaf).a, w32 (leaf).b, w32 (leaf).c, w32 (leaf).d, i64 (n), i64 (i), x1]), (2, Pr.ex (Value.bool (false)))] 2 hN_0 hD_0 (by kernel_rfl) (by kernel_rfl) ?_ ?_
  · refine Asks.cons ?_ (Asks.cons ?_ (Asks.zero _))
    · refine Ask.fresh rfl rfl ?_
      intro aq wq hNq hO hR hT
      exact does_box (V := Value.agg #[w32 (r).a, w32 (r).b, w32 (r).c, w32 (r).d, w32 (leaf).a, w32 (leaf).b, w32 (leaf).c, w32 (leaf).d, i64 (n), i64 (i), x1]) ((hO 0 rfl).trans s0_0) (fun b w2 he hlo hb => ⟨he, ⟨b, rfl, Nat.le_trans hR.size' hlo, hb⟩, ⟨b, rfl, hlo, hb.lt⟩⟩)
    · refine Ask.plain rfl rfl ?_
      intro aq wq hNq hO hR hT
      exact does_assign (V := Value.bool (false)) rfl ⟨Ext.refl _, rfl⟩
  intro a1 wd1 hN_1 hD_1 hO hR hA hU
  obtain ⟨t1, _, _⟩ := hA
  have hE_1 := hE_0.trans hR
  have hsx1_1 := hsx1_0.ext' hR
  obtain ⟨b1, s1_1, lo_b1, hbb1_1⟩ := t1
  have nb_x1_b1 := SlT.old hsx1_0 lo_b1
  have fr_b1 : w0.heap.size ≤ b1 := Nat.le_trans hE_0.size' lo_b1
  clear hE_0 hN_0 hD_0 s0_0 hsx1_0
  refine tail_nil ?_
  refine wp_seq ?_
  refine wp_seq ?_
  refine region_lex [] [(3, Pr.ex (Value.bool (true))), (4, Pr.ex (Value.bool (false)))] 2 hN_1 hD_1 (by kernel_rfl) (by kernel_rfl) ?_ ?_
  · refine Asks.cons ?_ (Asks.cons ?_ (Asks.zero _))
    · refine Ask.plain rfl rfl ?_
      intro aq wq hNq hO hR hT
      exact does_ret (vs := #[]) call_10 args0 rfl ((alive04 wq (hL.ext (hE_1.trans hR))).mono fun v w2 h => ⟨h.2, h.1⟩)
    · refine Ask.plain rfl rfl ?_
      intro aq wq hNq hO hR hT
      exact does_not (B := true) (hT 3 rfl rfl) ⟨Ext.refl _, rfl⟩
  intro a2 wd2 hN_2 hD_2 hO hR hA hU
  obtain ⟨_, t4, _⟩ := hA
  have hE_2 := hE_1.trans hR
  have s1_2 := (hO 1 rfl).trans s1_1
  have hbb1_2 := hbb1_1.ext' hR
  have hsx1_2 := hsx1_1.ext' hR
  have s4_2 : get a2 4 = Value.bool (false) := t4
  clear hE_1 hN_1 hD_1 s1_1 hbb1_1 hsx1_1
  refine tail_nil ?_
  refine wp_ifF s4_2 ?_
  refine wp_skip ?_
  refine wp_seq ?_
  refine wp_seq ?_
  refine region_lex [] [(5, Pr.ex (Value.pointer (some ⟨b1, 10, none⟩))), (6, Pr.ex (x1)), (7, Pr.ex (i64 ((l.length : Nat) : Int))), (8, Pr.ex (Value.bool (decide (((30 : Nat) : Int) < ((l.length : Nat) : Int)))))] 4 hN_2 hD_2 (by kernel_rfl) (by kernel_rfl) ?_ ?_
  · refine Asks.cons ?_ (Asks.cons ?_ (Asks.cons ?_ (Asks.cons ?_ (Asks.zero _))))
    · refine Ask.plain rfl rfl ?_
      intro aq wq hNq hO hR hT
      exact does_field (o' := 10) fld_41_4 ((hO 1 rfl).trans s1_2) rfl ⟨Ext.refl _, rfl⟩
    · refine Ask.plain rfl rfl ?_
      intro aq wq hNq hO hR hT
      exact does_loadD1 (o := 10) (V := x1) (hT 5 rfl rfl) (hbb1_2.ext' hR) rfl one_27 ⟨Ext.refl _, rfl⟩
    · refine Ask.plain rfl rfl ?_
      intro aq wq hNq hO hR hT
      exact does_len (T := DG) (xs := l) sli_27 (SlT.at (hT 6 rfl rfl) (hsx1_2.ext' hR)) ⟨Ext.refl _, rfl⟩
    · refine Ask.plain rfl rfl ?_
      intro aq wq hNq hO hR hT
      exact does_gtr (a := ((l.length : Nat) : Int)) (b := ((30 : Nat) : Int)) (hT 7 rfl rfl) rfl ⟨Ext.refl _, rfl⟩
  intro a3 wd3 hN_3 hD_3 hO hR hA hU
  obtain ⟨_, _, _, t8, _⟩ := hA
  have hE_3 := hE_2.trans hR
  have s1_3 := (hO 1 rfl).trans s1_2
  have hbb1_3 := hbb1_2.ext' hR
  have hsx1_3 := hsx1_2.ext' hR
  have s8_3 : get a3 8 = Value.bool (decide (((30 : Nat) : Int) < ((l.length : Nat) : Int))) := t8
  clear hE_2 hN_2 hD_2 s1_2 s4_2 hbb1_2 hsx1_2
  refine tail_nil ?_
  refine wp_if (B := decide (((30 : Nat) : Int) < ((l.length : Nat) : Int))) s8_3 (fun hc0 => ?_) (fun hc0 => ?_)
  · -- T 0
    have hc0 := of_decide_eq_true hc0
    refine wp_seq ?_
    refine region_lex [] [(2, Pr.ex (Value.bool (true)))] 1 hN_3 hD_3 (by kernel_rfl) (by kernel_rfl) ?_ ?_
    · refine Asks.cons ?_ (Asks.zero _)
      · refine Ask.plain rfl rfl ?_
        intro aq wq hNq hO hR hT
        exact does_assign (V := Value.bool (true)) rfl ⟨Ext.refl _, rfl⟩
    intro a4 wd4 hN_4 hD_4 hO hR hA hU
    obtain ⟨t2, _⟩ := hA
    have hE_4 := hE_3.trans hR
    have hbb1_4 := hbb1_3.ext' hR
    have hsx1_4 := hsx1_3.ext' hR
    have s2_4 : get a4 2 = Value.bool (true) := t2
    clear hE_3 hN_3 hD_3 s1_3 s8_3 hbb1_3 hsx1_3
    refine tail_nil ?_
    refine wp_ret ?_
    refine res_one (V := Value.bool (true)) rfl hD_4 s2_4 ?_
    exact ⟨rfl, hE_4⟩
  have hc0 := of_decide_eq_false hc0
  refine wp_skip ?_
  refine wp_seq ?_
  refine region_any [] [(9, Pr.ex (Value.pointer (some ⟨b1, 0, none⟩))), (10, Pr.ex (Dg.val (r))), (11, Pr.ex (Value.pointer (some ⟨b1, 8, none⟩))), (12, Pr.ex (i64 (n))), (13, Pr.ex (Value.pointer (some ⟨b1, 9, none⟩))), (14, Pr.ex (i64 (i))), (15, Pr.ex (Value.pointer (some ⟨b1, 4, none⟩))), (16, Pr.ex (Dg.val (leaf))), (17, Pr.ex (Value.pointer (some ⟨b1, 10, none⟩))), (18, Pr.ex (x1)), (19, Pr.ex (Value.bool (checks r (n) (i) leaf l))), (20, Pr.ex (Value.pointer (some ⟨b1, 0, none⟩))), (21, Pr.ex (Dg.val (r))), (22, Pr.ex (Value.pointer (some ⟨b1, 8, none⟩))), (23, Pr.ex (i64 (n))), (24, Pr.ex (Value.pointer (some ⟨b1, 9, none⟩))), (25, Pr.ex (i64 (i))), (26, Pr.ex (Value.pointer (some ⟨b1, 4, none⟩))), (27, Pr.ex (Dg.val (leaf))), (28, Pr.ex (Value.pointer (some ⟨b1, 10, none⟩))), (29, Pr.ex (x1)), (30, Pr.ex (Value.bool (checks r (n) (i) leaf l))), (31, Pr.ex (Value.bool (((checks r (n) (i) leaf l) == (checks r (n) (i) leaf l))))), (2, Pr.ex (Value.bool (((checks r (n) (i) leaf l) == (checks r (n) (i) leaf l)))))] 24 mixed hN_3 hD_3 (by kernel_rfl) (by kernel_rfl) (by kernel_rfl) ?_ ?_
  · refine Asks.cons ?_ (Asks.cons ?_ (Asks.cons ?_ (Asks.cons ?_ (Asks.cons ?_ (Asks.cons ?_ (Asks.cons ?_ (Asks.cons ?_ (Asks.cons ?_ (Asks.cons ?_ (Asks.cons ?_ (Asks.cons ?_ (Asks.cons ?_ (Asks.cons ?_ (Asks.cons ?_ (Asks.cons ?_ (Asks.cons ?_ (Asks.cons ?_ (Asks.cons ?_ (Asks.cons ?_ (Asks.cons ?_ (Asks.cons ?_ (Asks.cons ?_ (Asks.cons ?_ (Asks.zero _))))))))))))))))))))))))
    · refine Ask.plain rfl rfl ?_
      intro aq wq hNq hO hR hT
      replace hR := (Ext.drew _).trans hR
      exact does_field (o' := 0) fld_41_0 ((hO 1 rfl).trans s1_3) rfl ⟨Ext.refl _, rfl⟩
    · refine Ask.plain rfl rfl ?_
      intro aq wq hNq hO hR hT
      replace hR := (Ext.drew _).trans hR
      exact does_loadD (o := 0) (n := 4) (mid := [w32 (r).a, w32 (r).b, w32 (r).c, w32 (r).d]) (hT 9 rfl rfl) (hbb1_3.ext' hR) rfl rfl (Nat.le_of_ble_eq_true rfl) row_24 rfl ⟨Ext.refl _, rfl⟩
    · refine Ask.plain rfl rfl ?_
      intro aq wq hNq hO hR hT
      replace hR := (Ext.drew _).trans hR
      exact does_field (o' := 8) fld_41_2 ((hO 1 rfl).trans s1_3) rfl ⟨Ext.refl _, rfl⟩
    · refine Ask.plain rfl rfl ?_
      intro aq wq hNq hO hR hT
      replace hR := (Ext.drew _).trans hR
      exact does_loadD1 (o := 8) (V := i64 (n)) (hT 11 rfl rfl) (hbb1_3.ext' hR) rfl one_3 ⟨Ext.refl _, rfl⟩
    · refine Ask.plain rfl rfl ?_
      intro aq wq hNq hO hR hT
      replace hR := (Ext.drew _).trans hR
      exact does_field (o' := 9) fld_41_3 ((hO 1 rfl).trans s1_3) rfl ⟨Ext.refl _, rfl⟩
    · refine Ask.plain rfl rfl ?_
      intro aq wq hNq hO hR hT
      replace hR := (Ext.drew _).trans hR
      exact does_loadD1 (o := 9) (V := i64 (i)) (hT 13 rfl rfl) (hbb1_3.ext' hR) rfl one_3 ⟨Ext.refl _, rfl⟩
    · refine Ask.plain rfl rfl ?_
      intro aq wq hNq hO hR hT
      replace hR := (Ext.drew _).trans hR
      exact does_field (o' := 4) fld_41_1 ((hO 1 rfl).trans s1_3) rfl ⟨Ext.refl _, rfl⟩
    · refine Ask.plain rfl rfl ?_
      intro aq wq hNq hO hR hT
      replace hR := (Ext.drew _).trans hR
      exact does_loadD (o := 4) (n := 4) (mid := [w32 (leaf).a, w32 (leaf).b, w32 (leaf).c, w32 (leaf).d]) (hT 15 rfl rfl) (hbb1_3.ext' hR) rfl rfl (Nat.le_of_ble_eq_true rfl) row_24 rfl ⟨Ext.refl _, rfl⟩
    · refine Ask.plain rfl rfl ?_
      intro aq wq hNq hO hR hT
      replace hR := (Ext.drew _).trans hR
      exact does_field (o' := 10) fld_41_4 ((hO 1 rfl).trans s1_3) rfl ⟨Ext.refl _, rfl⟩
    · refine Ask.plain rfl rfl ?_
      intro aq wq hNq hO hR hT
      replace hR := (Ext.drew _).trans hR
      exact does_loadD1 (o := 10) (V := x1) (hT 17 rfl rfl) (hbb1_3.ext' hR) rfl one_27 ⟨Ext.refl _, rfl⟩
    · refine Ask.plain rfl rfl ?_
      intro aq wq hNq hO hR hT
      replace hR := (Ext.drew _).trans hR
      exact does_ret (vs := #[Dg.val (r), i64 (n), i64 (i), Dg.val (leaf), x1]) call_20 (args5 (hT 10 rfl rfl) (hT 12 rfl rfl) (hT 14 rfl rfl) (hT 16 rfl rfl) (hT 18 rfl rfl)) rfl ((check_ (r) (n) (i) (leaf) (l) (x1) wq (hL.ext (hE_3.trans hR)) ((hsx1_3.ext' hR).wide (Nat.zero_le _) (.inl rfl)) (by omega)).mono fun v w2 h => ⟨h.2, h.1⟩)
    · refine Ask.plain rfl rfl ?_
      intro aq wq hNq hO hR hT
      replace hR := (Ext.drew _).trans hR
      exact does_field (o' := 0) fld_41_0 ((hO 1 rfl).trans s1_3) rfl ⟨Ext.refl _, rfl⟩
    · refine Ask.plain rfl rfl ?_
      intro aq wq hNq hO hR hT
      replace hR := (Ext.drew _).trans hR
      exact does_loadD (o := 0) (n := 4) (mid := [w32 (r).a, w32 (r).b, w32 (r).c, w32 (r).d]) (hT 20 rfl rfl) (hbb1_3.ext' hR) rfl rfl (Nat.le_of_ble_eq_true rfl) row_24 rfl ⟨Ext.refl _, rfl⟩
    · refine Ask.plain rfl rfl ?_
      intro aq wq hNq hO hR hT
      replace hR := (Ext.drew _).trans hR
      exact does_field (o' := 8) fld_41_2 ((hO 1 rfl).trans s1_3) rfl ⟨Ext.refl _, rfl⟩
    · refine Ask.plain rfl rfl ?_
      intro aq wq hNq hO hR hT
      replace hR := (Ext.drew _).trans hR
      exact does_loadD1 (o := 8) (V := i64 (n)) (hT 22 rfl rfl) (hbb1_3.ext' hR) rfl one_3 ⟨Ext.refl _, rfl⟩
    · refine Ask.plain rfl rfl ?_
      intro aq wq hNq hO hR hT
      replace hR := (Ext.drew _).trans hR
      exact does_field (o' := 9) fld_41_3 ((hO 1 rfl).trans s1_3) rfl ⟨Ext.refl _, rfl⟩
    · refine Ask.plain rfl rfl ?_
      intro aq wq hNq hO hR hT
      replace hR := (Ext.drew _).trans hR
      exact does_loadD1 (o := 9) (V := i64 (i)) (hT 24 rfl rfl) (hbb1_3.ext' hR) rfl one_3 ⟨Ext.refl _, rfl⟩
    · refine Ask.plain rfl rfl ?_
      intro aq wq hNq hO hR hT
      replace hR := (Ext.drew _).trans hR
      exact does_field (o' := 4) fld_41_1 ((hO 1 rfl).trans s1_3) rfl ⟨Ext.refl _, rfl⟩
    · refine Ask.plain rfl rfl ?_
      intro aq wq hNq hO hR hT
      replace hR := (Ext.drew _).trans hR
      exact does_loadD (o := 4) (n := 4) (mid := [w32 (leaf).a, w32 (leaf).b, w32 (leaf).c, w32 (leaf).d]) (hT 26 rfl rfl) (hbb1_3.ext' hR) rfl rfl (Nat.le_of_ble_eq_true rfl) row_24 rfl ⟨Ext.refl _, rfl⟩
    · refine Ask.plain rfl rfl ?_
      intro aq wq hNq hO hR hT
      replace hR := (Ext.drew _).trans hR
      exact does_field (o' := 10) fld_41_4 ((hO 1 rfl).trans s1_3) rfl ⟨Ext.refl _, rfl⟩
    · refine Ask.plain rfl rfl ?_
      intro aq wq hNq hO hR hT
      replace hR := (Ext.drew _).trans hR
      exact does_loadD1 (o := 10) (V := x1) (hT 28 rfl rfl) (hbb1_3.ext' hR) rfl one_27 ⟨Ext.refl _, rfl⟩
    · refine Ask.plain rfl rfl ?_
      intro aq wq hNq hO hR hT
      replace hR := (Ext.drew _).trans hR
      exact does_ret (vs := #[Dg.val (r), i64 (n), i64 (i), Dg.val (leaf), x1]) call_21 (args5 (hT 21 rfl rfl) (hT 23 rfl rfl) (hT 25 rfl rfl) (hT 27 rfl rfl) (hT 29 rfl rfl)) rfl ((checkR (r) (n) (i) (leaf) (l) (x1) wq ((hsx1_3.ext' hR).wide (Nat.zero_le _) (.inl rfl)) (by omega)).mono fun v w2 h => ⟨h.2, h.1⟩)
    · refine Ask.plain rfl rfl ?_
      intro aq wq hNq hO hR hT
      replace hR := (Ext.drew _).trans hR
      exact does_eqB Tryd.underlying4 (hT 19 rfl rfl) (hT 30 rfl rfl) ⟨Ext.refl _, rfl⟩
    · refine Ask.plain rfl rfl ?_
      intro aq wq hNq hO hR hT
      replace hR := (Ext.drew _).trans hR
      exact does_assign (V := Value.bool (((checks r (n) (i) leaf l) == (checks r (n) (i) leaf l)))) (hT 31 rfl rfl) ⟨Ext.refl _, rfl⟩
  intro a5 wd5 hN_5 hD_5 hO hR hA hU
  obtain ⟨_, _, _, _, _, _, _, _, _, _, _, _, _, _, _, _, _, _, _, _, _, _, _, t2, _⟩ := hA
  have hE_5 := hE_3.trans hR
  have hbb1_5 := hbb1_3.ext' hR
  have hsx1_5 := hsx1_3.ext' hR
  have s2_5 : get a5 2 = Value.bool (((checks r (n) (i) leaf l) == (checks r (n) (i) leaf l))) := t2
  clear hE_3 hN_3 hD_3 s1_3 s8_3 hbb1_3 hsx1_3
  refine tail_nil ?_
  refine wp_ret ?_
  refine res_one (V := Value.bool (((checks r (n) (i) leaf l) == (checks r (n) (i) leaf l)))) rfl hD_5 s2_5 ?_
  exact ⟨congrArg Value.bool (by simp), hE_5⟩

end Go.Proofs.YtncamojfjhbanaaDoor
