/- The walks of functions of the program: printed. -/
import Derived.Test.YtijfjpbahepegaaDoorKB
import Derived.Test.YtijfjpbahepegaaDoorG9
import Derived.Test.YtijfjpbahepegaaDoorG72
import Derived.Test.YtijfjpbahepegaaDoorF0
set_option maxRecDepth 100000
namespace Go.Proofs.YtijfjpbahepegaaDoor
open Go Go.RowKit Sk Sd
theorem call_12 : Callable Tryd.prog 12 := ⟨_, Tryd.func12, by kernel_rfl, rfl⟩
theorem row_59 : RowIs Tryd.prog 59 7 := ⟨_, Tryd.underlying59, rfl, by kernel_rfl⟩
theorem call_28 : Callable Tryd.prog 28 := ⟨_, Tryd.func28, by kernel_rfl, rfl⟩
theorem call_29 : Callable Tryd.prog 29 := ⟨_, Tryd.func29, by kernel_rfl, rfl⟩
theorem call_30 : Callable Tryd.prog 30 := ⟨_, Tryd.func30, by kernel_rfl, rfl⟩
theorem headChecks (z : Head) (bu : Dg) (i : Int) (one path : List Dg) (x1 x2 : Value) (w0 : World) (hL : Laid w0) (hx1 : SlT DG 0 0 one x1 w0) (hx2 : SlT DG 0 0 path x2 w0) :
    Gives Tryd.prog 9 #[Value.agg #[i64 (z.size), w32 (z.root).a, w32 (z.root).b, w32 (z.root).c, w32 (z.root).d], Value.agg #[w32 (bu).a, w32 (bu).b, w32 (bu).c, w32 (bu).d, i64 (i), x1, x2]] w0 (Pr.ex (Value.bool true)) := by
 refine enter (N := 17) Tryd.func9 rfl rfl ?_
 intro a0 hN_0 hD_0 hA
 have s0_0 : get a0 0 = Value.agg #[i64 (z.size), w32 (z.root).a, w32 (z.root).b, w32 (z.root).c, w32 (z.root).d] := hA 0 _ rfl
 have s1_0 : get a0 1 = Value.agg #[w32 (bu).a, w32 (bu).b, w32 (bu).c, w32 (bu).d, i64 (i), x1, x2] := hA 1 _ rfl
 clear hA
 have hE_0 : Ext w0 w0 := Ext.refl w0
 have hsx1_0 := hx1.close
 have hsx2_0 := hx2.close
 refine wp_seq ?_
 refine region_lex [2, 3] [(2, Pr.box' w0.heap.size 29 [i64 (z.size), w32 (z.root).a, w32 (z.root).b, w32 (z.root).c, w32 (z.root).d]), (3, Pr.box' w0.heap.size 59 [w32 (bu).a, w32 (bu).b, w32 (bu).c, w32 (bu).d, i64 (i), x1, x2]), (4, Pr.ex (Value.bool (false)))] 3 hN_0 hD_0 (by kernel_rfl) (by kernel_rfl) ?_ ?_
 refine Asks.cons ?_ (Asks.cons ?_ (Asks.cons ?_ (Asks.zero _)))
 refine Ask.fresh rfl rfl ?_
 intro aq wq hNq hO hR hT
 exact does_box (V := Value.agg #[i64 (z.size), w32 (z.root).a, w32 (z.root).b, w32 (z.root).c, w32 (z.root).d]) ((hO 0 rfl).trans s0_0) (fun b w2 he hlo hb => ⟨he, ⟨b, rfl, Nat.le_trans hR.size' hlo, hb⟩, ⟨b, rfl, hlo, hb.lt⟩⟩)
 refine Ask.fresh rfl rfl ?_
 intro aq wq hNq hO hR hT
 exact does_box (V := Value.agg #[w32 (bu).a, w32 (bu).b, w32 (bu).c, w32 (bu).d, i64 (i), x1, x2]) ((hO 1 rfl).trans s1_0) (fun b w2 he hlo hb => ⟨he, ⟨b, rfl, Nat.le_trans hR.size' hlo, hb⟩, ⟨b, rfl, hlo, hb.lt⟩⟩)
 exact Ask.plain rfl rfl fun aq wq hNq hO hR hT => does_assign (V := Value.bool (false)) rfl ⟨Ext.refl _, rfl⟩
 intro a1 wd1 hN_1 hD_1 hO hR hA hU
 obtain ⟨t2, t3, _, _⟩ := hA
 have hE_1 := hE_0.trans hR
 have hsx1_1 := hsx1_0.ext' hR
 have hsx2_1 := hsx2_0.ext' hR
 obtain ⟨b2, s2_1, lo_b2, hbb2_1⟩ := t2
 have nb_x1_b2 := SlT.old hsx1_0 lo_b2
 have nb_x2_b2 := SlT.old hsx2_0 lo_b2
 have fr_b2 : w0.heap.size ≤ b2 := Nat.le_trans hE_0.size' lo_b2
 obtain ⟨b3, s3_1, lo_b3, hbb3_1⟩ := t3
 have nb_x1_b3 := SlT.old hsx1_0 lo_b3
 have nb_x2_b3 := SlT.old hsx2_0 lo_b3
 have fr_b3 : w0.heap.size ≤ b3 := Nat.le_trans hE_0.size' lo_b3
 obtain ⟨u0, ⟨u1, _⟩⟩ := hU
 have ne_b2_b3 : b2 ≠ b3 := fun e => u0 3 (by decide) (by rw [s2_1, s3_1, e])
 clear hE_0 hN_0 hD_0 s0_0 s1_0 hsx1_0 hsx2_0
 refine tail_nil ?_
 refine wp_seq ?_
 refine wp_seq ?_
 refine region_lex [] [(5, Pr.ex (Value.bool (true))), (6, Pr.ex (Value.bool (false)))] 2 hN_1 hD_1 (by kernel_rfl) (by kernel_rfl) ?_ ?_
 refine Asks.cons ?_ (Asks.cons ?_ (Asks.zero _))
 exact Ask.plain rfl rfl fun aq wq hNq hO hR hT => does_ret (vs := #[]) call_12 args0 rfl ((alive43 wq (hL.ext (hE_1.trans hR))).mono fun v w2 h => ⟨h.2, h.1⟩)
 exact Ask.plain rfl rfl fun aq wq hNq hO hR hT => does_not (B := true) (hT 5 rfl rfl) ⟨Ext.refl _, rfl⟩
 intro a2 wd2 hN_2 hD_2 hO hR hA hU
 obtain ⟨_, t6, _⟩ := hA
 have hE_2 := hE_1.trans hR
 have s2_2 := (hO 2 rfl).trans s2_1
 have s3_2 := (hO 3 rfl).trans s3_1
 have hbb2_2 := hbb2_1.ext' hR
 have hbb3_2 := hbb3_1.ext' hR
 have hsx1_2 := hsx1_1.ext' hR
 have hsx2_2 := hsx2_1.ext' hR
 have s6_2 : get a2 6 = Value.bool (false) := t6
 clear hE_1 hN_1 hD_1 s2_1 s3_1 hbb2_1 hbb3_1 hsx1_1 hsx2_1
 refine tail_nil ?_
 refine wp_ifF s6_2 ?_
 refine wp_skip ?_
 refine wp_seq ?_
 refine wp_seq ?_
 refine region_lex [] [(7, Pr.ex (Value.agg #[w32 (bu).a, w32 (bu).b, w32 (bu).c, w32 (bu).d, i64 (i), x1, x2])), (8, Pr.ex (Value.bool (decide (((one.length : Nat) : Int) ≤ ((40 : Nat) : Int)) && decide (((path.length : Nat) : Int) ≤ ((6 : Nat) : Int))))), (9, Pr.ex (Value.bool (!(decide (((one.length : Nat) : Int) ≤ ((40 : Nat) : Int)) && decide (((path.length : Nat) : Int) ≤ ((6 : Nat) : Int))))))] 3 hN_2 hD_2 (by kernel_rfl) (by kernel_rfl) ?_ ?_
 refine Asks.cons ?_ (Asks.cons ?_ (Asks.cons ?_ (Asks.zero _)))
 exact Ask.plain rfl rfl fun aq wq hNq hO hR hT => does_loadD (o := 0) (n := 7) (mid := [w32 (bu).a, w32 (bu).b, w32 (bu).c, w32 (bu).d, i64 (i), x1, x2]) ((hO 3 rfl).trans s3_2) (hbb3_2.ext' hR) rfl rfl (Nat.le_of_ble_eq_true rfl) row_59 rfl ⟨Ext.refl _, rfl⟩
 exact Ask.plain rfl rfl fun aq wq hNq hO hR hT => does_ret (vs := #[Value.agg #[w32 (bu).a, w32 (bu).b, w32 (bu).c, w32 (bu).d, i64 (i), x1, x2]]) call_28 (args1 (hT 7 rfl rfl)) rfl ((short43 bu (i) one path (x1) (x2) wq ((hsx1_2.ext' hR).wide (Nat.zero_le _) (.inl rfl)) ((hsx2_2.ext' hR).wide (Nat.zero_le _) (.inl rfl))).mono fun v w2 h => ⟨h.2, h.1⟩)
 exact Ask.plain rfl rfl fun aq wq hNq hO hR hT => does_not (B := decide (((one.length : Nat) : Int) ≤ ((40 : Nat) : Int)) && decide (((path.length : Nat) : Int) ≤ ((6 : Nat) : Int))) (hT 8 rfl rfl) ⟨Ext.refl _, rfl⟩
 intro a3 wd3 hN_3 hD_3 hO hR hA hU
 obtain ⟨_, _, t9, _⟩ := hA
 have hE_3 := hE_2.trans hR
 have s2_3 := (hO 2 rfl).trans s2_2
 have s3_3 := (hO 3 rfl).trans s3_2
 have hbb2_3 := hbb2_2.ext' hR
 have hbb3_3 := hbb3_2.ext' hR
 have hsx1_3 := hsx1_2.ext' hR
 have hsx2_3 := hsx2_2.ext' hR
 have s9_3 : get a3 9 = Value.bool (!(decide (((one.length : Nat) : Int) ≤ ((40 : Nat) : Int)) && decide (((path.length : Nat) : Int) ≤ ((6 : Nat) : Int)))) := t9
 clear hE_2 hN_2 hD_2 s2_2 s3_2 s6_2 hbb2_2 hbb3_2 hsx1_2 hsx2_2
 refine tail_nil ?_
 refine wp_if (B := !(decide (((one.length : Nat) : Int) ≤ ((40 : Nat) : Int)) && decide (((path.length : Nat) : Int) ≤ ((6 : Nat) : Int)))) s9_3 (fun hc0 => ?_) (fun hc0 => ?_)
 refine wp_seq ?_
 refine region_lex [] [(4, Pr.ex (Value.bool (true)))] 1 hN_3 hD_3 (by kernel_rfl) (by kernel_rfl) ?_ ?_
 refine Asks.cons ?_ (Asks.zero _)
 exact Ask.plain rfl rfl fun aq wq hNq hO hR hT => does_assign (V := Value.bool (true)) rfl ⟨Ext.refl _, rfl⟩
 intro a4 wd4 hN_4 hD_4 hO hR hA hU
 obtain ⟨t4, _⟩ := hA
 have hE_4 := hE_3.trans hR
 have hbb2_4 := hbb2_3.ext' hR
 have hbb3_4 := hbb3_3.ext' hR
 have hsx1_4 := hsx1_3.ext' hR
 have hsx2_4 := hsx2_3.ext' hR
 have s4_4 : get a4 4 = Value.bool (true) := t4
 clear hE_3 hN_3 hD_3 s2_3 s3_3 s9_3 hbb2_3 hbb3_3 hsx1_3 hsx2_3
 refine tail_nil ?_
 refine wp_ret ?_
 refine res_one (V := Value.bool (true)) rfl hD_4 s4_4 ?_
 exact ⟨rfl, hE_4⟩
 obtain ⟨ho40, hp6⟩ : ((one.length : Nat) : Int) ≤ 40 ∧ ((path.length : Nat) : Int) ≤ 6 := by simpa using hc0
 have hn : one.length ≤ 100000 := by omega
 have hpn : path.length ≤ 100000 := by omega
 refine wp_skip ?_
 refine wp_seq ?_
 refine region_any [] [(10, Pr.ex (Value.agg #[i64 (z.size), w32 (z.root).a, w32 (z.root).b, w32 (z.root).c, w32 (z.root).d])), (11, Pr.ex (Value.agg #[w32 (bu).a, w32 (bu).b, w32 (bu).c, w32 (bu).d, i64 (i), x1, x2])), (12, Pr.ex (Value.bool (keyCheck bu (headOf z) (i) one path))), (13, Pr.ex (Value.agg #[i64 (z.size), w32 (z.root).a, w32 (z.root).b, w32 (z.root).c, w32 (z.root).d])), (14, Pr.ex (Value.agg #[w32 (bu).a, w32 (bu).b, w32 (bu).c, w32 (bu).d, i64 (i), x1, x2])), (15, Pr.ex (Value.bool (keyCheck bu (headOf z) (i) one path))), (16, Pr.ex (Value.bool (((keyCheck bu (headOf z) (i) one path) == (keyCheck bu (headOf z) (i) one path))))), (4, Pr.ex (Value.bool (((keyCheck bu (headOf z) (i) one path) == (keyCheck bu (headOf z) (i) one path)))))] 8 mixed hN_3 hD_3 (by kernel_rfl) (by kernel_rfl) (by kernel_rfl) ?_ ?_
 refine Asks.cons ?_ (Asks.cons ?_ (Asks.cons ?_ (Asks.cons ?_ (Asks.cons ?_ (Asks.cons ?_ (Asks.cons ?_ (Asks.cons ?_ (Asks.zero _))))))))
 exact Ask.plainD rfl rfl fun aq wq hNq hO hR hT => does_loadD (o := 0) (n := 5) (mid := [i64 (z.size), w32 (z.root).a, w32 (z.root).b, w32 (z.root).c, w32 (z.root).d]) ((hO 2 rfl).trans s2_3) (hbb2_3.ext' hR) rfl rfl (Nat.le_of_ble_eq_true rfl) row_29 rfl ⟨Ext.refl _, rfl⟩
 exact Ask.plainD rfl rfl fun aq wq hNq hO hR hT => does_loadD (o := 0) (n := 7) (mid := [w32 (bu).a, w32 (bu).b, w32 (bu).c, w32 (bu).d, i64 (i), x1, x2]) ((hO 3 rfl).trans s3_3) (hbb3_3.ext' hR) rfl rfl (Nat.le_of_ble_eq_true rfl) row_59 rfl ⟨Ext.refl _, rfl⟩
 exact Ask.plainD rfl rfl fun aq wq hNq hO hR hT => does_ret (vs := #[Value.agg #[i64 (z.size), w32 (z.root).a, w32 (z.root).b, w32 (z.root).c, w32 (z.root).d], Value.agg #[w32 (bu).a, w32 (bu).b, w32 (bu).c, w32 (bu).d, i64 (i), x1, x2]]) call_29 (args2 (hT 10 rfl rfl) (hT 11 rfl rfl)) rfl ((headCheck_ z bu (i) one path (x1) (x2) wq (hL.ext (hE_3.trans hR)) ((hsx1_3.ext' hR).wide (Nat.zero_le _) (.inl rfl)) ((hsx2_3.ext' hR).wide (Nat.zero_le _) (.inl rfl)) hn hpn).mono fun v w2 h => ⟨h.2, h.1⟩)
 exact Ask.plainD rfl rfl fun aq wq hNq hO hR hT => does_loadD (o := 0) (n := 5) (mid := [i64 (z.size), w32 (z.root).a, w32 (z.root).b, w32 (z.root).c, w32 (z.root).d]) ((hO 2 rfl).trans s2_3) (hbb2_3.ext' hR) rfl rfl (Nat.le_of_ble_eq_true rfl) row_29 rfl ⟨Ext.refl _, rfl⟩
 exact Ask.plainD rfl rfl fun aq wq hNq hO hR hT => does_loadD (o := 0) (n := 7) (mid := [w32 (bu).a, w32 (bu).b, w32 (bu).c, w32 (bu).d, i64 (i), x1, x2]) ((hO 3 rfl).trans s3_3) (hbb3_3.ext' hR) rfl rfl (Nat.le_of_ble_eq_true rfl) row_59 rfl ⟨Ext.refl _, rfl⟩
 exact Ask.plainD rfl rfl fun aq wq hNq hO hR hT => does_ret (vs := #[Value.agg #[i64 (z.size), w32 (z.root).a, w32 (z.root).b, w32 (z.root).c, w32 (z.root).d], Value.agg #[w32 (bu).a, w32 (bu).b, w32 (bu).c, w32 (bu).d, i64 (i), x1, x2]]) call_30 (args2 (hT 13 rfl rfl) (hT 14 rfl rfl)) rfl ((headCheckR z bu (i) one path (x1) (x2) wq ((hsx1_3.ext' hR).wide (Nat.zero_le _) (.inl rfl)) ((hsx2_3.ext' hR).wide (Nat.zero_le _) (.inl rfl)) hn hpn).mono fun v w2 h => ⟨h.2, h.1⟩)
 exact Ask.plainD rfl rfl fun aq wq hNq hO hR hT => does_eqB Tryd.underlying4 (hT 12 rfl rfl) (hT 15 rfl rfl) ⟨Ext.refl _, rfl⟩
 exact Ask.plainD rfl rfl fun aq wq hNq hO hR hT => does_assign (V := Value.bool (((keyCheck bu (headOf z) (i) one path) == (keyCheck bu (headOf z) (i) one path)))) (hT 16 rfl rfl) ⟨Ext.refl _, rfl⟩
 intro a5 wd5 hN_5 hD_5 hO hR hA hU
 obtain ⟨_, _, _, _, _, _, _, t4, _⟩ := hA
 have hE_5 := hE_3.trans hR
 have hbb2_5 := hbb2_3.ext' hR
 have hbb3_5 := hbb3_3.ext' hR
 have hsx1_5 := hsx1_3.ext' hR
 have hsx2_5 := hsx2_3.ext' hR
 have s4_5 : get a5 4 = Value.bool (((keyCheck bu (headOf z) (i) one path) == (keyCheck bu (headOf z) (i) one path))) := t4
 clear hE_3 hN_3 hD_3 s2_3 s3_3 s9_3 hbb2_3 hbb3_3 hsx1_3 hsx2_3
 refine tail_nil ?_
 refine wp_ret ?_
 refine res_one (V := Value.bool (((keyCheck bu (headOf z) (i) one path) == (keyCheck bu (headOf z) (i) one path)))) rfl hD_5 s4_5 ?_
 exact ⟨congrArg Value.bool (by simp), hE_5⟩

end Go.Proofs.YtijfjpbahepegaaDoor
