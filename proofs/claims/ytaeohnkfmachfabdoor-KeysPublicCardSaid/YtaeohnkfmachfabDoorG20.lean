/- The walks of functions of the program: printed. -/
import Derived.Test.YtaeohnkfmachfabDoorF0
set_option maxRecDepth 100000
namespace Go.Proofs.YtaeohnkfmachfabDoor
open Go Go.RowKit Sk Sd
theorem clone_ (l : List Dg) (x1 : Value) (w0 : World) (hx1 : SlT DG 0 0 l x1 w0) (hn : l.length ≤ 100000) :
    Gives Tryd.prog 31 #[x1] w0 (Pr.own' DG w0.heap.size 24 l) := by
 refine enter (N := 8) Tryd.func31 rfl rfl ?_
 intro a0 hN_0 hD_0 hA
 have s0_0 : get a0 0 = x1 := hA 0 _ rfl
 clear hA
 have hE_0 : Ext w0 w0 := Ext.refl w0
 have hs1 := hx1
 have hsx1_0 := hx1.close
 refine wp_seq ?_
 refine region_lex [] [(2, Pr.ex (Value.slice none 0 0))] 1 hN_0 hD_0 (by kernel_rfl) (by kernel_rfl) ?_ ?_
 refine Asks.cons ?_ (Asks.zero _)
 exact Ask.plain rfl rfl fun aq wq hNq hO hR hT => does_assign (V := Value.slice none 0 0) rfl ⟨Ext.refl _, rfl⟩
 intro a1 wd1 hN_1 hD_1 hO hR hA hU
 obtain ⟨_, _⟩ := hA
 have hE_1 := hE_0.trans hR
 have s0_1 := (hO 0 rfl).trans s0_0
 have hsx1_1 := hsx1_0.ext' hR
 clear hE_0 hN_0 hD_0 s0_0 hsx1_0
 refine tail_nil ?_
 refine wp_seq ?_
 refine wp_seq ?_
 refine region_lex [] [(3, Pr.ex (x1)), (4, Pr.ex (Value.bool (isNil x1)))] 2 hN_1 hD_1 (by kernel_rfl) (by kernel_rfl) ?_ ?_
 refine Asks.cons ?_ (Asks.cons ?_ (Asks.zero _))
 exact Ask.plain rfl rfl fun aq wq hNq hO hR hT => does_move (V := x1) ((hO 0 rfl).trans s0_1) ⟨Ext.refl _, rfl⟩
 exact Ask.plain rfl rfl fun aq wq hNq hO hR hT => does_isNil Tryd.underlying34 (hT 3 rfl rfl) (hsx1_1.ext' hR) rfl ⟨Ext.refl _, rfl⟩
 intro a2 wd2 hN_2 hD_2 hO hR hA hU
 obtain ⟨_, t4, _⟩ := hA
 have hE_2 := hE_1.trans hR
 have s0_2 := (hO 0 rfl).trans s0_1
 have hsx1_2 := hsx1_1.ext' hR
 have s4_2 : get a2 4 = Value.bool (isNil x1) := t4
 clear hE_1 hN_1 hD_1 s0_1 hsx1_1
 refine tail_nil ?_
 refine wp_if (B := isNil x1) s4_2 (fun hc0 => ?_) (fun hc0 => ?_)
 refine wp_seq ?_
 refine region_lex [] [(2, Pr.ex (Value.slice none 0 0))] 1 hN_2 hD_2 (by kernel_rfl) (by kernel_rfl) ?_ ?_
 refine Asks.cons ?_ (Asks.zero _)
 exact Ask.plain rfl rfl fun aq wq hNq hO hR hT => does_assign (V := Value.slice none 0 0) rfl ⟨Ext.refl _, rfl⟩
 intro a3 wd3 hN_3 hD_3 hO hR hA hU
 obtain ⟨t2, _⟩ := hA
 have hE_3 := hE_2.trans hR
 have hsx1_3 := hsx1_2.ext' hR
 have s2_3 : get a3 2 = Value.slice none 0 0 := t2
 clear hE_2 hN_2 hD_2 s0_2 s4_2 hsx1_2
 refine tail_nil ?_
 refine wp_ret ?_
 refine res_one (V := Value.slice none 0 0) rfl hD_3 s2_3 ?_
 exact ⟨by show OwnT _ _ _ _ _ _; rw [hs1.isNil hc0]; exact OwnT.nil DG _ 24 _, hE_3⟩
 refine wp_skip ?_
 refine wp_seq ?_
 refine region_lex [] [(5, Pr.own' DG wd2.heap.size 24 ([])), (6, Pr.ex (x1))] 2 hN_2 hD_2 (by kernel_rfl) (by kernel_rfl) ?_ ?_
 refine Asks.cons ?_ (Asks.cons ?_ (Asks.zero _))
 exact Ask.plain rfl rfl fun aq wq hNq hO hR hT => does_slice0 (T := DG) app_34 rfl (fun v w2 he _ ho => ⟨he, OwnT.base ho hR.size'⟩)
 exact Ask.plain rfl rfl fun aq wq hNq hO hR hT => does_move (V := x1) ((hO 0 rfl).trans s0_2) ⟨Ext.refl _, rfl⟩
 intro a4 wd4 hN_4 hD_4 hO hR hA hU
 obtain ⟨t5, t6, _⟩ := hA
 have hE_4 := hE_2.trans hR
 have hsx1_4 := hsx1_2.ext' hR
 obtain ⟨x5, s5_4⟩ : ∃ x, get a4 5 = x := ⟨_, rfl⟩
 replace t5 : OwnT DG wd2.heap.size 24 ([]) x5 wd4 := by rw [← s5_4]; exact t5
 have hsx5_4 := t5.sl.wide (Nat.zero_le _) (.inl rfl)
 have hox5_4 := OwnT.base t5 hE_2.size'
 have s6_4 : get a4 6 = x1 := t6
 clear hE_2 hN_2 hD_2 s0_2 s4_2 hsx1_2
 refine tail_put rfl rfl hN_4 hD_4 (by decide) (does_appendA (T := DG) (base := w0.heap.size) (xs := []) (ys := l) (v := x5) app_34 s5_4 hox5_4 (SlT.at s6_4 hsx1_4)  (by simp only [List.length_nil]; omega) (by simp only [List.length_nil]; omega) hE_4.size' (fun x7 wd5 hX hox7_5 hk a5 hN_5 hD_5 hv hO => ?_))
 have hE_5 := hE_4.since hX (fun b hb => Nat.le_trans (Nat.le_refl _) (OwnT.block_lt hox5_4 hb).1)
 have hsx1_5 := SlT.overOwn hsx1_4 hox5_4 hX
 have hsx7_5 := hox7_5.sl.wide (Nat.zero_le _) (.inl rfl)
 rw [List.nil_append] at hox7_5 hsx7_5
 have s7_5 := hv
 clear hO hv hX hk hN_4 hD_4 hE_4 hsx1_4 s5_4 s6_4
 refine tail_put rfl rfl hN_5 hD_5 (by decide) (does_assign (V := x7) s7_5 (fun a6 hN_6 hD_6 hv hO => ?_))
 have s2_6 := hv
 clear hO hv hN_5 hD_5 s7_5
 refine tail_nil ?_
 refine wp_ret ?_
 refine res_one (V := x7) rfl hD_6 s2_6 ?_
 exact ⟨hox7_5, hE_5⟩

end Go.Proofs.YtaeohnkfmachfabDoor
