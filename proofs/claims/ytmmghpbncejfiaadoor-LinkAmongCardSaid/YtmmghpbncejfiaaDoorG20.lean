/- The walks of functions of the program: printed. -/
import Derived.Test.YtmmghpbncejfiaaDoorF0
set_option maxRecDepth 100000
namespace Go.Proofs.YtmmghpbncejfiaaDoor
open Go Go.RowKit Sk Sd
theorem clone_ (l : List Dg) (x1 : Value) (w0 : World) (hx1 : SlT DG 0 0 l x1 w0) (hn : l.length ≤ 100000) :
    Gives Tryd.prog 42 #[x1] w0 (Pr.own' DG w0.heap.size 24 l) := by
 refine enter (N := 8) Tryd.func42 rfl rfl ?_
 intro a0 N0 D0 hA
 have s0_0 : get a0 0 = x1 := hA 0 _ rfl
 clear hA
 have E0 : Ext w0 w0 := Ext.refl w0
 have hs1 := hx1
 have X1_0 := hx1.close
 refine wp_seq ?_
 refine Rl [] [(2, Pr.ex (Value.slice none 0 0))] 1 N0 D0 ?_ ?_
 refine Ac ?_ (Az _)
 exact Ap fun aq wq _ hO hR hT => does_assign (V := Value.slice none 0 0) rfl eR
 intro a1 wd1 N1 D1 hO hR hA hU
 obtain ⟨_, _⟩ := hA
 have E1 := E0.trans hR
 have s0_1 := oT hO s0_0 rfl
 have X1_1 := X1_0.ext' hR
 clear E0 N0 D0 s0_0 X1_0
 refine tail_nil ?_
 refine wp_seq ?_
 refine wp_seq ?_
 refine Rl [] [(3, Pr.ex (x1)), (4, Pr.ex (Value.bool (isNil x1)))] 2 N1 D1 ?_ ?_
 refine Ac ?_ (Ac ?_ (Az _))
 exact Am s0_1 rfl fun _ => rfl
 exact Ap fun aq wq _ hO hR hT => does_isNil Tryd.underlying27 (hT 3 rfl rfl) (X1_1.ext' hR) rfl eR
 intro a2 wd2 N2 D2 hO hR hA hU
 obtain ⟨_, t4, _⟩ := hA
 have E2 := E1.trans hR
 have s0_2 := oT hO s0_1 rfl
 have X1_2 := X1_1.ext' hR
 have s4_2 : get a2 4 = Value.bool (isNil x1) := t4
 clear E1 N1 D1 s0_1 X1_1
 refine tail_nil ?_
 refine wp_if (B := isNil x1) s4_2 (fun hc0 => ?_) (fun hc0 => ?_)
 refine wp_seq ?_
 refine Rl [] [(2, Pr.ex (Value.slice none 0 0))] 1 N2 D2 ?_ ?_
 refine Ac ?_ (Az _)
 exact Ap fun aq wq _ hO hR hT => does_assign (V := Value.slice none 0 0) rfl eR
 intro a3 wd3 N3 D3 hO hR hA hU
 obtain ⟨t2, _⟩ := hA
 have E3 := E2.trans hR
 have X1_3 := X1_2.ext' hR
 have s2_3 : get a3 2 = Value.slice none 0 0 := t2
 clear E2 N2 D2 s0_2 s4_2 X1_2
 refine tail_nil ?_
 refine wp_ret ?_
 refine res_one (V := Value.slice none 0 0) rfl D3 s2_3 ?_
 exact ⟨by show OwnT _ _ _ _ _ _; rw [hs1.isNil hc0]; exact OwnT.nil DG _ 24 _, E3⟩
 refine wp_skip ?_
 refine wp_seq ?_
 refine Rl [] [(5, Pr.own' DG wd2.heap.size 24 ([])), (6, Pr.ex (x1))] 2 N2 D2 ?_ ?_
 refine Ac ?_ (Ac ?_ (Az _))
 exact Ap fun aq wq _ hO hR hT => does_slice0 (T := DG) app_27 rfl (fun v w2 he _ ho => ⟨he, OwnT.base ho hR.size'⟩)
 exact Am s0_2 rfl fun _ => rfl
 intro a4 wd4 N4 D4 hO hR hA hU
 obtain ⟨t5, t6, _⟩ := hA
 have E4 := E2.trans hR
 have X1_4 := X1_2.ext' hR
 obtain ⟨x5, s5_4⟩ : ∃ x, get a4 5 = x := ⟨_, rfl⟩
 replace t5 : OwnT DG wd2.heap.size 24 ([]) x5 wd4 := by rw [← s5_4]; exact t5
 have X5_4 := t5.sl.wide (Nat.zero_le _) (.inl rfl)
 have O5_4 := OwnT.base t5 E2.size'
 have s6_4 : get a4 6 = x1 := t6
 clear E2 N2 D2 s0_2 s4_2 X1_2
 refine tail_put rfl rfl N4 D4 (by decide) (does_appendA (T := DG) (base := w0.heap.size) (xs := []) (ys := l) (v := x5) app_27 s5_4 O5_4 (SlT.at s6_4 X1_4)  (by simp only [List.length_nil]; omega) (by simp only [List.length_nil]; omega) E4.size' (fun x7 wd5 hX O7_5 hk a5 N5 D5 hv hO => ?_))
 have E5 := E4.since hX (fun b hb => Nat.le_trans (Nat.le_refl _) (OwnT.block_lt O5_4 hb).1)
 have X1_5 := SlT.overOwn X1_4 O5_4 hX
 have X7_5 := O7_5.sl.wide (Nat.zero_le _) (.inl rfl)
 rw [List.nil_append] at O7_5 X7_5
 have s7_5 := hv
 clear hO hv hX hk N4 D4 E4 X1_4 s5_4 s6_4
 refine tail_put rfl rfl N5 D5 (by decide) (does_assign (V := x7) s7_5 (fun a6 N6 D6 hv hO => ?_))
 have s2_6 := hv
 clear hO hv N5 D5 s7_5
 refine tail_nil ?_
 refine wp_ret ?_
 refine res_one (V := x7) rfl D6 s2_6 ?_
 exact ⟨O7_5, E5⟩

end Go.Proofs.YtmmghpbncejfiaaDoor
