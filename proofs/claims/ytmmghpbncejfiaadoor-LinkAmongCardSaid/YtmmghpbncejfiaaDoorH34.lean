/- The walks of functions of the program: printed. -/
import Derived.Test.YtmmghpbncejfiaaDoorKB
import Derived.Test.YtmmghpbncejfiaaDoorG94
import Derived.Test.YtmmghpbncejfiaaDoorG96
import Derived.Test.YtmmghpbncejfiaaDoorG110
import Derived.Test.YtmmghpbncejfiaaDoorG112
import Derived.Test.YtmmghpbncejfiaaDoorG113
import Derived.Test.YtmmghpbncejfiaaDoorF0
set_option maxRecDepth 100000
namespace Go.Proofs.YtmmghpbncejfiaaDoor
open Go Go.RowKit Sk Sd
theorem call_8 : Callable Tryd.prog 8 := ⟨_, Tryd.func8, by kernel_rfl, rfl⟩
theorem sli_54 : SliceIs Tryd.prog 54 26 8 := ⟨Tryd.underlying54, by kernel_rfl⟩
theorem call_17 : Callable Tryd.prog 17 := ⟨_, Tryd.func17, by kernel_rfl, rfl⟩
theorem call_18 : Callable Tryd.prog 18 := ⟨_, Tryd.func18, by kernel_rfl, rfl⟩
theorem call_19 : Callable Tryd.prog 19 := ⟨_, Tryd.func19, by kernel_rfl, rfl⟩
theorem app_55 : AppIs Tryd.prog 55 32 7 72 := ⟨Tryd.underlying55, app_of (by kernel_rfl)⟩
theorem sli_55 : SliceIs Tryd.prog 55 32 7 := ⟨Tryd.underlying55, by kernel_rfl⟩
theorem linkAmong (seed : Dg) (l : List Link) (x1 : Value) (w0 : World) (hL : Laid w0) (hx1 : SlT LK 0 0 l x1 w0) :
    Gives Tryd.prog 7 #[Dg.val (seed), x1] w0 (Pr.ex (Value.bool true)) := by
 refine enter (N := 117) Tryd.func7 rfl rfl ?_
 intro a0 N0 D0 hA
 have s0_0 : get a0 0 = Dg.val (seed) := hA 0 _ rfl
 have s1_0 : get a0 1 = x1 := hA 1 _ rfl
 clear hA
 have E0 : Ext w0 w0 := Ext.refl w0
 have X1_0 := hx1.close
 refine wp_seq ?_
 refine Rl [2] [(2, Pr.box' w0.heap.size 24 [w32 (seed).a, w32 (seed).b, w32 (seed).c, w32 (seed).d]), (4, Pr.ex (Value.bool (false)))] 2 N0 D0 ?_ ?_
 refine Ac ?_ (Ac ?_ (Az _))
 refine Ask.fresh rfl rfl ?_
 intro aq wq hNq hO hR hT
 exact does_box (V := Dg.val (seed)) (oT hO s0_0 rfl) (fun b w2 he hlo hb => ⟨he, ⟨b, rfl, Nat.le_trans hR.size' hlo, hb⟩, ⟨b, rfl, hlo, hb.lt⟩⟩)
 exact Ap fun aq wq _ hO hR hT => does_assign (V := Value.bool (false)) rfl eR
 intro a1 wd1 N1 D1 hO hR hA hU
 obtain ⟨t2, _, _⟩ := hA
 have E1 := E0.trans hR
 have s1_1 := oT hO s1_0 rfl
 have X1_1 := X1_0.ext' hR
 obtain ⟨b2, s2_1, lo_b2, B2_1⟩ := t2
 have nb_x1_b2 := SlT.old X1_0 lo_b2
 have fr_b2 : w0.heap.size ≤ b2 := Nat.le_trans E0.size' lo_b2
 clear E0 N0 D0 s0_0 s1_0 X1_0
 refine tail_nil ?_
 refine wp_seq ?_
 refine wp_seq ?_
 refine Rl [] [(16, Pr.ex (Value.bool (true))), (17, Pr.ex (Value.bool (false)))] 2 N1 D1 ?_ ?_
 refine Ac ?_ (Ac ?_ (Az _))
 exact Ap fun aq wq _ hO hR hT => does_ret (vs := #[]) call_8 args0 rfl ((awake44 wq (hL.ext (E1.trans hR))).mono fun v w2 h => ⟨h.2, h.1⟩)
 exact Ap fun aq wq _ hO hR hT => does_not (B := true) (hT 16 rfl rfl) eR
 intro a2 wd2 N2 D2 hO hR hA hU
 obtain ⟨_, t17, _⟩ := hA
 have E2 := E1.trans hR
 have s1_2 := oT hO s1_1 rfl
 have s2_2 := oT hO s2_1 rfl
 have B2_2 := B2_1.ext' hR
 have X1_2 := X1_1.ext' hR
 have s17_2 : get a2 17 = Value.bool (false) := t17
 clear E1 N1 D1 s1_1 s2_1 B2_1 X1_1
 refine tail_nil ?_
 refine wp_ifF s17_2 ?_
 refine wp_skip ?_
 refine wp_seq ?_
 refine wp_seq ?_
 refine Rl [] [(18, Pr.ex (x1)), (19, Pr.ex (i64 (l.length : Int))), (20, Pr.ex (Value.bool (decide (((4 : Nat) : Int) < (l.length : Int)))))] 3 N2 D2 ?_ ?_
 refine Ac ?_ (Ac ?_ (Ac ?_ (Az _)))
 exact Am s1_2 rfl fun _ => rfl
 exact Ap fun aq wq _ hO hR hT => does_len (T := LK) (xs := l) sli_54 (SlT.at (hT 18 rfl rfl) (X1_2.ext' hR)) eR
 exact Ap fun aq wq _ hO hR hT => does_gtr (a := (l.length : Int)) (b := ((4 : Nat) : Int)) (hT 19 rfl rfl) rfl eR
 intro a3 wd3 N3 D3 hO hR hA hU
 obtain ⟨_, _, t20, _⟩ := hA
 have E3 := E2.trans hR
 have s1_3 := oT hO s1_2 rfl
 have s2_3 := oT hO s2_2 rfl
 have B2_3 := B2_2.ext' hR
 have X1_3 := X1_2.ext' hR
 have s20_3 : get a3 20 = Value.bool (decide (((4 : Nat) : Int) < (l.length : Int))) := t20
 clear E2 N2 D2 s1_2 s2_2 s17_2 B2_2 X1_2
 refine tail_nil ?_
 refine wp_if (B := decide (((4 : Nat) : Int) < (l.length : Int))) s20_3 (fun hc0 => ?_) (fun hc0 => ?_)
 have hc0 := of_decide_eq_true hc0
 refine wp_seq ?_
 refine Rl [] [(4, Pr.ex (Value.bool (true)))] 1 N3 D3 ?_ ?_
 refine Ac ?_ (Az _)
 exact Ap fun aq wq _ hO hR hT => does_assign (V := Value.bool (true)) rfl eR
 intro a4 wd4 N4 D4 hO hR hA hU
 obtain ⟨t4, _⟩ := hA
 have E4 := E3.trans hR
 have B2_4 := B2_3.ext' hR
 have X1_4 := X1_3.ext' hR
 have s4_4 : get a4 4 = Value.bool (true) := t4
 clear E3 N3 D3 s1_3 s2_3 s20_3 B2_3 X1_3
 refine tail_nil ?_
 refine wp_ret ?_
 refine res_one (V := Value.bool (true)) rfl D4 s4_4 ?_
 exact ⟨rfl, E4⟩
 have hc0 := of_decide_eq_false hc0
 have hlen : l.length ≤ 4 := by omega
 refine wp_skip ?_
 refine wp_seq ?_
 refine Rl [5] [(22, Pr.ex (Dg.val (seed))), (23, Pr.ex (Value.tuple #[Value.agg #[w32 (seed).a, w32 (seed).b, w32 (seed).c, w32 (seed).d, i64 ((2 : Nat) : Int), i64 ((0 : Nat) : Int)], i64 ((0 : Nat) : Int)])), (21, Pr.ex (Value.tuple #[Value.agg #[w32 (seed).a, w32 (seed).b, w32 (seed).c, w32 (seed).d, i64 ((2 : Nat) : Int), i64 ((0 : Nat) : Int)], i64 ((0 : Nat) : Int)])), (24, Pr.ex (Value.agg #[w32 (seed).a, w32 (seed).b, w32 (seed).c, w32 (seed).d, i64 ((2 : Nat) : Int), i64 ((0 : Nat) : Int)])), (25, Pr.ex (i64 ((0 : Nat) : Int))), (5, Pr.box' wd3.heap.size 45 [w32 (Dg.zero).a, w32 (Dg.zero).b, w32 (Dg.zero).c, w32 (Dg.zero).d, i64 ((0 : Nat) : Int), i64 ((0 : Nat) : Int)])] 6 N3 D3 ?_ ?_
 refine Ac ?_ (Ac ?_ (Ac ?_ (Ac ?_ (Ac ?_ (Ac ?_ (Az _))))))
 exact Ap fun aq wq _ hO hR hT => does_loadD (o := 0) (n := 4) (mid := [w32 (seed).a, w32 (seed).b, w32 (seed).c, w32 (seed).d]) (oT hO s2_3 rfl) (B2_3.ext' hR) rfl rfl (nB rfl) row_24 rfl eR
 exact Ap fun aq wq _ hO hR hT => does_ret (vs := #[Dg.val (seed), i64 ((2 : Nat) : Int)]) call_17 (args2 (hT 22 rfl rfl) rfl) rfl ((keyNew_k seed 2 wq (by decide)).mono fun v w2 h => ⟨h.2, h.1⟩)
 exact Ap fun aq wq _ hO hR hT => does_move (V := Value.tuple #[Value.agg #[w32 (seed).a, w32 (seed).b, w32 (seed).c, w32 (seed).d, i64 ((2 : Nat) : Int), i64 ((0 : Nat) : Int)], i64 ((0 : Nat) : Int)]) (hT 23 rfl rfl) eR
 exact Ap fun aq wq _ hO hR hT => does_extract (V := Value.agg #[w32 (seed).a, w32 (seed).b, w32 (seed).c, w32 (seed).d, i64 ((2 : Nat) : Int), i64 ((0 : Nat) : Int)]) (hT 21 rfl rfl) rfl eR
 exact Ap fun aq wq _ hO hR hT => does_extract (V := i64 ((0 : Nat) : Int)) (hT 21 rfl rfl) rfl eR
 refine Ask.fresh rfl rfl ?_
 intro aq wq hNq hO hR hT
 exact does_alloc zero_45 (fun b w2 he hlo hb => ⟨he, ⟨b, rfl, Nat.le_trans hR.size' hlo, hb⟩, ⟨b, rfl, hlo, hb.lt⟩⟩)
 intro a5 wd5 N5 D5 hO hR hA hU
 obtain ⟨_, _, _, t24, t25, t5, _⟩ := hA
 have E5 := E3.trans hR
 have s1_5 := oT hO s1_3 rfl
 have s2_5 := oT hO s2_3 rfl
 have B2_5 := B2_3.ext' hR
 have X1_5 := X1_3.ext' hR
 have s24_5 : get a5 24 = Value.agg #[w32 (seed).a, w32 (seed).b, w32 (seed).c, w32 (seed).d, i64 ((2 : Nat) : Int), i64 ((0 : Nat) : Int)] := t24
 have s25_5 : get a5 25 = i64 ((0 : Nat) : Int) := t25
 obtain ⟨b5, s5_5, lo_b5, B5_5⟩ := t5
 have ne_b2_b5 := Hl B2_3 lo_b5
 have nb_x1_b5 := SlT.old X1_3 lo_b5
 have fr_b5 : w0.heap.size ≤ b5 := Nat.le_trans E3.size' lo_b5
 clear E3 N3 D3 s1_3 s2_3 s20_3 B2_3 X1_3
 refine tail_none rfl rfl (does_storeD (o := 0) (n := 6) (cs' := [w32 (seed).a, w32 (seed).b, w32 (seed).c, w32 (seed).d, i64 ((2 : Nat) : Int), i64 ((0 : Nat) : Int)]) (V := Value.agg #[w32 (seed).a, w32 (seed).b, w32 (seed).c, w32 (seed).d, i64 ((2 : Nat) : Int), i64 ((0 : Nat) : Int)]) s5_5 s24_5 B5_5 (nB rfl) rfl siz_45 rfl rfl (fun wd6 hX hz B5_6 => ?_))
 have E6 := E5.since hX (fun k e => e ▸ fr_b5)
 have B2_6 := B2_5.ext hX ne_b2_b5
 have X1_6 := SlT.over X1_5 hX nb_x1_b5
 clear hX hz E5 B2_5 B5_5 X1_5
 refine tail_put rfl rfl N5 D5 (by decide) (does_assign (V := i64 ((0 : Nat) : Int)) s25_5 (fun a7 N7 D7 hv hO => ?_))
 have s6_7 := hv
 have s1_7 := oT hO s1_5 rfl
 have s2_7 := oT hO s2_5 rfl
 have s5_7 := oT hO s5_5 rfl
 clear hO hv N5 D5 s1_5 s2_5 s5_5 s24_5 s25_5
 refine tail_nil ?_
 refine wp_seq ?_
 refine Rl [7] [(27, Pr.ex (Dg.val (seed))), (28, Pr.ex (Value.tuple #[Dg.val (root (publics seed (pw 2))), i64 ((0 : Nat) : Int)])), (26, Pr.ex (Value.tuple #[Dg.val (root (publics seed (pw 2))), i64 ((0 : Nat) : Int)])), (29, Pr.ex (Dg.val (root (publics seed (pw 2))))), (30, Pr.ex (i64 ((0 : Nat) : Int))), (7, Pr.box' wd6.heap.size 24 [w32 (Dg.zero).a, w32 (Dg.zero).b, w32 (Dg.zero).c, w32 (Dg.zero).d])] 6 N7 D7 ?_ ?_
 refine Ac ?_ (Ac ?_ (Ac ?_ (Ac ?_ (Ac ?_ (Ac ?_ (Az _))))))
 exact Ap fun aq wq _ hO hR hT => does_loadD (o := 0) (n := 4) (mid := [w32 (seed).a, w32 (seed).b, w32 (seed).c, w32 (seed).d]) (oT hO s2_7 rfl) (B2_6.ext' hR) rfl rfl (nB rfl) row_24 rfl eR
 exact Ap fun aq wq _ hO hR hT => does_ret (vs := #[Dg.val (seed), i64 ((2 : Nat) : Int)]) call_18 (args2 (hT 27 rfl rfl) rfl) rfl ((keyPub_k seed 2 wq (hL.ext (E6.trans hR)) (by decide)).mono fun v w2 h => ⟨h.2, h.1⟩)
 exact Ap fun aq wq _ hO hR hT => does_move (V := Value.tuple #[Dg.val (root (publics seed (pw 2))), i64 ((0 : Nat) : Int)]) (hT 28 rfl rfl) eR
 exact Ap fun aq wq _ hO hR hT => does_extract (V := Dg.val (root (publics seed (pw 2)))) (hT 26 rfl rfl) rfl eR
 exact Ap fun aq wq _ hO hR hT => does_extract (V := i64 ((0 : Nat) : Int)) (hT 26 rfl rfl) rfl eR
 refine Ask.fresh rfl rfl ?_
 intro aq wq hNq hO hR hT
 exact does_alloc zero_24 (fun b w2 he hlo hb => ⟨he, ⟨b, rfl, Nat.le_trans hR.size' hlo, hb⟩, ⟨b, rfl, hlo, hb.lt⟩⟩)
 intro a8 wd8 N8 D8 hO hR hA hU
 obtain ⟨_, _, _, t29, t30, t7, _⟩ := hA
 have E8 := E6.trans hR
 have s1_8 := oT hO s1_7 rfl
 have s5_8 := oT hO s5_7 rfl
 have s6_8 := oT hO s6_7 rfl
 have B2_8 := B2_6.ext' hR
 have B5_8 := B5_6.ext' hR
 have X1_8 := X1_6.ext' hR
 have s29_8 : get a8 29 = Dg.val (root (publics seed (pw 2))) := t29
 have s30_8 : get a8 30 = i64 ((0 : Nat) : Int) := t30
 obtain ⟨b7, s7_8, lo_b7, B7_8⟩ := t7
 have ne_b2_b7 := Hl B2_6 lo_b7
 have ne_b5_b7 := Hl B5_6 lo_b7
 have nb_x1_b7 := SlT.old X1_6 lo_b7
 have fr_b7 : w0.heap.size ≤ b7 := Nat.le_trans E6.size' lo_b7
 clear E6 N7 D7 s1_7 s2_7 s5_7 s6_7 B2_6 B5_6 X1_6
 refine tail_none rfl rfl (does_storeD (o := 0) (n := 4) (cs' := [w32 (root (publics seed (pw 2))).a, w32 (root (publics seed (pw 2))).b, w32 (root (publics seed (pw 2))).c, w32 (root (publics seed (pw 2))).d]) (V := Dg.val (root (publics seed (pw 2)))) s7_8 s29_8 B7_8 (nB rfl) rfl siz_24 rfl rfl (fun wd9 hX hz B7_9 => ?_))
 have E9 := E8.since hX (fun k e => e ▸ fr_b7)
 have B2_9 := B2_8.ext hX ne_b2_b7
 have B5_9 := B5_8.ext hX ne_b5_b7
 have X1_9 := SlT.over X1_8 hX nb_x1_b7
 clear hX hz E8 B2_8 B5_8 B7_8 X1_8
 refine tail_put rfl rfl N8 D8 (by decide) (does_assign (V := i64 ((0 : Nat) : Int)) s30_8 (fun a10 N10 D10 hv hO => ?_))
 have s8_10 := hv
 have s1_10 := oT hO s1_8 rfl
 have s5_10 := oT hO s5_8 rfl
 have s6_10 := oT hO s6_8 rfl
 have s7_10 := oT hO s7_8 rfl
 clear hO hv N8 D8 s1_8 s5_8 s6_8 s7_8 s29_8 s30_8
 refine tail_nil ?_
 refine wp_seq ?_
 refine wp_seq ?_
 refine Rl [] [(31, Pr.ex (i64 ((0 : Nat) : Int))), (32, Pr.ex (Value.bool (false))), (33, Pr.ex (Value.bool (false))), (34, Pr.ifb (!false) (Pr.ex (i64 ((0 : Nat) : Int)))), (35, Pr.ifb (!false) (Pr.ex (Value.bool (false)))), (36, Pr.ex (Value.bool (false || false)))] 6 N10 D10 ?_ ?_
 refine Ac ?_ (Ac ?_ (Ac ?_ (Ac ?_ (Ac ?_ (Ac ?_ (Az _))))))
 exact Am s6_10 rfl fun _ => rfl
 exact Ap fun aq wq _ hO hR hT => does_neq (a := ((0 : Nat) : Int)) (b := ((0 : Nat) : Int)) (hT 31 rfl rfl) rfl eR
 exact Ap fun aq wq _ hO hR hT => does_move (V := Value.bool (false)) (hT 32 rfl rfl) eR
 refine Ask.guarded (B := false) (want := false) (t := 33) rfl rfl rfl rfl (by decide) (fun aq wq hO hR hT => hT 33 rfl rfl) (fun hG aq wq hNq hO hR hT => ?_) (fun hno _ => fun hc => absurd (bn hc) hno)
 replace hG := nb hG
 exact does_move (V := i64 ((0 : Nat) : Int)) (oT hO s8_10 rfl) ⟨Ext.refl _, fun _ => rfl⟩
 refine Ask.guarded (B := false) (want := false) (t := 33) rfl rfl rfl rfl (by decide) (fun aq wq hO hR hT => hT 33 rfl rfl) (fun hG aq wq hNq hO hR hT => ?_) (fun hno _ => fun hc => absurd (bn hc) hno)
 replace hG := nb hG
 exact does_neq (a := ((0 : Nat) : Int)) (b := ((0 : Nat) : Int)) (hT 34 rfl rfl hG) rfl ⟨Ext.refl _, fun _ => rfl⟩
 exact Ap fun aq wq _ hO hR hT => does_or (B := false) (X := false) (hT 33 rfl rfl) rfl (fun hB => (hT 35 rfl rfl (nb hB))) eR
 intro a11 wd11 N11 D11 hO hR hA hU
 obtain ⟨_, _, _, _, _, t36, _⟩ := hA
 have E11 := E9.trans hR
 have s1_11 := oT hO s1_10 rfl
 have s5_11 := oT hO s5_10 rfl
 have s7_11 := oT hO s7_10 rfl
 have B2_11 := B2_9.ext' hR
 have B5_11 := B5_9.ext' hR
 have B7_11 := B7_9.ext' hR
 have X1_11 := X1_9.ext' hR
 have s36_11 : get a11 36 = Value.bool (false || false) := t36
 clear E9 N10 D10 s1_10 s5_10 s6_10 s7_10 s8_10 B2_9 B5_9 B7_9 X1_9
 refine tail_nil ?_
 refine wp_if (B := false || false) s36_11 (fun hc1 => ?_) (fun hc1 => ?_)
 simp at hc1
 refine wp_skip ?_
 refine wp_seq ?_
 refine Rl [] [(9, Pr.ex (Value.slice none 0 0))] 1 N11 D11 ?_ ?_
 refine Ac ?_ (Az _)
 exact Ap fun aq wq _ hO hR hT => does_assign (V := Value.slice none 0 0) rfl eR
 intro a12 wd12 N12 D12 hO hR hA hU
 obtain ⟨t9, _⟩ := hA
 have E12 := E11.trans hR
 have s1_12 := oT hO s1_11 rfl
 have s5_12 := oT hO s5_11 rfl
 have s7_12 := oT hO s7_11 rfl
 have B2_12 := B2_11.ext' hR
 have B5_12 := B5_11.ext' hR
 have B7_12 := B7_11.ext' hR
 have X1_12 := X1_11.ext' hR
 have s9_12 : get a12 9 = Value.slice none 0 0 := t9
 clear E11 N11 D11 s1_11 s5_11 s7_11 s36_11 B2_11 B5_11 B7_11 X1_11
 refine tail_nil ?_
 refine wp_seq ?_
 refine wp_seq ?_
 refine Rl [] [(10, Pr.ex (i64 ((0 : Nat) : Int)))] 1 N12 D12 ?_ ?_
 refine Ac ?_ (Az _)
 exact Ap fun aq wq _ hO hR hT => does_assign (V := i64 ((0 : Nat) : Int)) rfl eR
 intro a13 wd13 N13 D13 hO hR hA hU
 obtain ⟨t10, _⟩ := hA
 have E13 := E12.trans hR
 have s1_13 := oT hO s1_12 rfl
 have s5_13 := oT hO s5_12 rfl
 have s7_13 := oT hO s7_12 rfl
 have s9_13 := oT hO s9_12 rfl
 have B2_13 := B2_12.ext' hR
 have B5_13 := B5_12.ext' hR
 have B7_13 := B7_12.ext' hR
 have X1_13 := X1_12.ext' hR
 have s10_13 : get a13 10 = i64 ((0 : Nat) : Int) := t10
 clear E12 N12 D12 s1_12 s5_12 s7_12 s9_12 B2_12 B5_12 B7_12 X1_12
 refine tail_nil ?_
 refine wp_block ?_
 refine loop_g (fun mz az wz => ∃ k : Nat, ∃ xo : Value, ∃ S : List Sg, mz = l.length - k ∧ (az.tmps.size = 117) ∧ (az.defers = []) ∧ (get az 1 = x1) ∧ (get az 5 = Value.pointer (some ⟨b5, 0, none⟩)) ∧ (get az 7 = Value.pointer (some ⟨b7, 0, none⟩)) ∧ (get az 9 = xo) ∧ (get az 10 = i64 (k : Int)) ∧ (Ext w0 wz) ∧ (Has wz b2 24 [w32 (seed).a, w32 (seed).b, w32 (seed).c, w32 (seed).d]) ∧ (Has wz b5 45 [w32 (seed).a, w32 (seed).b, w32 (seed).c, w32 (seed).d, i64 ((2 : Nat) : Int), i64 (k : Int)]) ∧ (Has wz b7 24 [w32 (root (publics seed (pw 2))).a, w32 (root (publics seed (pw 2))).b, w32 (root (publics seed (pw 2))).c, w32 (root (publics seed (pw 2))).d]) ∧ (SlT LK 0 (w0.heap.size + 1) (l) x1 wz) ∧ (Said seed 2 l w0.heap.size 24 S wz) ∧ (OwnT SG w0.heap.size 32 (S) xo wz) ∧ (xo.ownBlock ≠ some b2) ∧ (xo.ownBlock ≠ some b5) ∧ (xo.ownBlock ≠ some b7) ∧ (k ≤ l.length) ∧ (S.length = k)) ?_ ?_
 exact ⟨_, 0, (Value.slice none 0 0), [], rfl, N13, D13, s1_13, s5_13, s7_13, s9_13, s10_13, E13, B2_13, B5_13, B7_13, X1_13, Said.nil, (OwnT.nil SG w0.heap.size 32 _), (by intro e; cases e), (by intro e; cases e), (by intro e; cases e), Nat.zero_le _, rfl⟩
 rintro mz a14 wd14 ⟨k, xo, S, rfl, N14, D14, s1_14, s5_14, s7_14, s9_14, s10_14, E14, B2_14, B5_14, B7_14, X1_14, hsS_14, hoxo_14, nbo_xo_b2, nbo_xo_b5, nbo_xo_b7, hk, hSl⟩
 have hsxo_14 := hoxo_14.sl.wide (Nat.zero_le _) (.inl rfl)
 refine wp_seq ?_
 refine wp_seq ?_
 refine Rl [] [(37, Pr.ex (i64 (k : Int))), (38, Pr.ex (x1)), (39, Pr.ex (i64 (l.length : Int))), (40, Pr.ex (Value.bool (decide ((k : Int) < (l.length : Int)))))] 4 N14 D14 ?_ ?_
 refine Ac ?_ (Ac ?_ (Ac ?_ (Ac ?_ (Az _))))
 exact Am s10_14 rfl fun _ => rfl
 exact Am s1_14 rfl fun _ => rfl
 exact Ap fun aq wq _ hO hR hT => does_len (T := LK) (xs := l) sli_54 (SlT.at (hT 38 rfl rfl) (X1_14.ext' hR)) eR
 exact Ap fun aq wq _ hO hR hT => does_lss (a := (k : Int)) (b := (l.length : Int)) (hT 37 rfl rfl) (hT 39 rfl rfl) eR
 intro a15 wd15 N15 D15 hO hR hA hU
 obtain ⟨_, _, _, t40, _⟩ := hA
 have E15 := E14.trans hR
 have s1_15 := oT hO s1_14 rfl
 have s5_15 := oT hO s5_14 rfl
 have s7_15 := oT hO s7_14 rfl
 have s9_15 := oT hO s9_14 rfl
 have s10_15 := oT hO s10_14 rfl
 have B2_15 := B2_14.ext' hR
 have B5_15 := B5_14.ext' hR
 have B7_15 := B7_14.ext' hR
 have X1_15 := X1_14.ext' hR
 have hsS_15 := hsS_14.ext' hR
 have hsxo_15 := hsxo_14.ext' hR
 have hoxo_15 := hoxo_14.ext' hR
 have s40_15 : get a15 40 = Value.bool (decide ((k : Int) < (l.length : Int))) := t40
 clear E14 N14 D14 s1_14 s5_14 s7_14 s9_14 s10_14 B2_14 B5_14 B7_14 X1_14 hsS_14 hsxo_14 hoxo_14
 refine tail_nil ?_
 refine wp_if (B := decide ((k : Int) < (l.length : Int))) s40_15 (fun hc2 => ?_) (fun hc2 => ?_)
 have hc2 := of_decide_eq_true hc2
 obtain ⟨z, hz⟩ := get_of_lt (l := l) (k := k) (by omega)
 have hk4 : k < pw 2 := by show k < 4; omega
 refine wp_skip ?_
 refine wp_seq ?_
 refine wp_block ?_
 refine wp_seq ?_
 refine region_late [11, 12] [(44, Pr.ex (Value.agg #[w32 (seed).a, w32 (seed).b, w32 (seed).c, w32 (seed).d, i64 ((2 : Nat) : Int), i64 (k : Int)])), (45, Pr.ex (x1)), (46, Pr.ex (i64 (k : Int))), (47, Pr.pt' 0 (w0.heap.size + 1) [w32 (z.recipe).a, w32 (z.recipe).b, w32 (z.recipe).c, w32 (z.recipe).d, w32 (z.out).a, w32 (z.out).b, w32 (z.out).c, w32 (z.out).d]), (48, Pr.ex (Value.agg #[w32 (z.recipe).a, w32 (z.recipe).b, w32 (z.recipe).c, w32 (z.recipe).d, w32 (z.out).a, w32 (z.out).b, w32 (z.out).c, w32 (z.out).d])), (49, Pr.ex (Dg.val (linkOf z.recipe z.out))), (50, Pr.t3 (Pr.ex (Value.agg #[w32 (seed).a, w32 (seed).b, w32 (seed).c, w32 (seed).d, i64 ((2 : Nat) : Int), i64 ((k + 1 : Nat) : Int)])) (Pr.ag2 (fun x y => Value.agg #[i64 (k : Int), x, y]) (Pr.own' DG wd15.heap.size 24 (signed (seedAt seed k) (linkOf z.recipe z.out))) (Pr.own' DG wd15.heap.size 24 (way (publics seed (pw 2)) k))) (Pr.ex (i64 ((0 : Nat) : Int)))), (43, Pr.t3 (Pr.ex (Value.agg #[w32 (seed).a, w32 (seed).b, w32 (seed).c, w32 (seed).d, i64 ((2 : Nat) : Int), i64 ((k + 1 : Nat) : Int)])) (Pr.ag2 (fun x y => Value.agg #[i64 (k : Int), x, y]) (Pr.own' DG wd15.heap.size 24 (signed (seedAt seed k) (linkOf z.recipe z.out))) (Pr.own' DG wd15.heap.size 24 (way (publics seed (pw 2)) k))) (Pr.ex (i64 ((0 : Nat) : Int)))), (51, Pr.ex (Value.agg #[w32 (seed).a, w32 (seed).b, w32 (seed).c, w32 (seed).d, i64 ((2 : Nat) : Int), i64 ((k + 1 : Nat) : Int)])), (52, Pr.ag2 (fun x y => Value.agg #[i64 (k : Int), x, y]) (Pr.own' DG wd15.heap.size 24 (signed (seedAt seed k) (linkOf z.recipe z.out))) (Pr.own' DG wd15.heap.size 24 (way (publics seed (pw 2)) k))), (53, Pr.ex (i64 ((0 : Nat) : Int))), (11, Pr.box' wd15.heap.size 45 [w32 (Dg.zero).a, w32 (Dg.zero).b, w32 (Dg.zero).c, w32 (Dg.zero).d, i64 ((0 : Nat) : Int), i64 ((0 : Nat) : Int)]), (12, Pr.box' wd15.heap.size 30 [i64 ((0 : Nat) : Int), Value.slice none 0 0, Value.slice none 0 0])] 13 [9, 10] (fun k => wd15.heap.size ≤ k) mixed N15 D15 (by kernel_rfl) (by kernel_rfl) (by kernel_rfl) (by kernel_rfl) (fun d v c a w h => by cases d <;> exact h) ?_ ?_ ?_
 refine Ac ?_ (Ac ?_ (Ac ?_ (Ac ?_ (Ac ?_ (Ac ?_ (Ac ?_ (Ac ?_ (Ac ?_ (Ac ?_ (Ac ?_ (Ac ?_ (Ac ?_ (Az _)))))))))))))
 exact Ad fun aq wq _ hO hR hT => does_loadD (o := 0) (n := 6) (mid := [w32 (seed).a, w32 (seed).b, w32 (seed).c, w32 (seed).d, i64 ((2 : Nat) : Int), i64 (k : Int)]) (oT hO s5_15 rfl) (B5_15.ext' hR) rfl rfl (nB rfl) row_45 rfl eR
 exact Am s1_15 rfl fun _ => rfl
 exact Am s10_15 rfl fun _ => rfl
 exact Ad fun aq wq _ hO hR hT => does_indexSl (T := LK) (xs := l) (i := (k : Int)) (X := z) sli_54 rfl (SlT.at (hT 45 rfl rfl) (X1_15.ext' hR)) (hT 46 rfl rfl) (by omega) hz (fun v h => ⟨Ext.refl _, h⟩)
 exact Ad fun aq wq _ hO hR hT => does_loadP (cs := [w32 (z.recipe).a, w32 (z.recipe).b, w32 (z.recipe).c, w32 (z.recipe).d, w32 (z.out).a, w32 (z.out).b, w32 (z.out).c, w32 (z.out).d]) (hT 47 rfl rfl) row_26 rfl eR
 exact Ad fun aq wq _ hO hR hT => does_ret (vs := #[Value.agg #[w32 (z.recipe).a, w32 (z.recipe).b, w32 (z.recipe).c, w32 (z.recipe).d, w32 (z.out).a, w32 (z.out).b, w32 (z.out).c, w32 (z.out).d]]) call_10 (args1 (hT 48 rfl rfl)) rfl ((linkOf_ z.recipe z.out wq (hL.ext (E15.trans hR))).mono fun v w2 h => ⟨h.2, h.1⟩)
 exact Ad fun aq wq _ hO hR hT => does_ret (vs := #[Value.agg #[w32 (seed).a, w32 (seed).b, w32 (seed).c, w32 (seed).d, i64 ((2 : Nat) : Int), i64 (k : Int)], Dg.val (linkOf z.recipe z.out)]) call_19 (args2 (hT 44 rfl rfl) (hT 49 rfl rfl)) rfl ((keyUse_k seed 2 k (linkOf z.recipe z.out) wq (hL.ext (E15.trans hR)) (by decide) hk4).mono fun v w2 h => ⟨h.2, by obtain ⟨x0, x1, x2, hv, k0, k1, k2⟩ := h.1; exact ⟨x0, x1, x2, hv, k0, (by obtain ⟨z0, z1, hz, kz0, kz1⟩ := k1; exact ⟨z0, z1, hz, OwnT.base kz0 hR.size', OwnT.base kz1 hR.size'⟩), k2⟩⟩)
 exact Ad fun aq wq _ hO hR hT => does_move rfl ⟨Ext.refl _, (hT 50 rfl rfl)⟩
 exact Ad fun aq wq _ hO hR hT => by
  obtain ⟨x0, x1, x2, hv, k0, k1, k2⟩ := (hT 43 rfl rfl)
  exact does_extract (V := Value.agg #[w32 (seed).a, w32 (seed).b, w32 (seed).c, w32 (seed).d, i64 ((2 : Nat) : Int), i64 ((k + 1 : Nat) : Int)]) hv (by rw [show x0 = Value.agg #[w32 (seed).a, w32 (seed).b, w32 (seed).c, w32 (seed).d, i64 ((2 : Nat) : Int), i64 ((k + 1 : Nat) : Int)] from k0]; rfl) ⟨Ext.refl _, rfl⟩
 exact Ad fun aq wq _ hO hR hT => by
  obtain ⟨x0, x1, x2, hv, k0, k1, k2⟩ := (hT 43 rfl rfl)
  exact does_extract hv rfl ⟨Ext.refl _, k1⟩
 exact Ad fun aq wq _ hO hR hT => by
  obtain ⟨x0, x1, x2, hv, k0, k1, k2⟩ := (hT 43 rfl rfl)
  exact does_extract (V := i64 ((0 : Nat) : Int)) hv (by rw [show x2 = i64 ((0 : Nat) : Int) from k2]; rfl) ⟨Ext.refl _, rfl⟩
 refine Ask.fresh rfl rfl ?_
 intro aq wq hNq hO hR hT
 replace hR := (Ext.drew _).trans hR
 exact does_alloc zero_45 (fun b w2 he hlo hb => ⟨he, ⟨b, rfl, Nat.le_trans hR.size' hlo, hb⟩, ⟨b, rfl, hlo, hb.lt⟩⟩)
 refine Ask.fresh rfl rfl ?_
 intro aq wq hNq hO hR hT
 replace hR := (Ext.drew _).trans hR
 exact does_alloc zero_30 (fun b w2 he hlo hb => ⟨he, ⟨b, rfl, Nat.le_trans hR.size' hlo, hb⟩, ⟨b, rfl, hlo, hb.lt⟩⟩)
 refine LateAsks.cons rfl rfl rfl ?_ (LateAsks.cons rfl rfl rfl ?_ LateAsks.nil)
 intro aq wq hO hR hT
 have hR0 := hR
 replace hR := (Ext.drew _).trans hR
 obtain ⟨x0, x1, x2, hv, k0, k1, k2⟩ := (hT 43 rfl rfl)
 exact ⟨_, yl_extract hv rfl, k1⟩
 intro aq wq hO hR hT
 have hR0 := hR
 replace hR := (Ext.drew _).trans hR
 obtain ⟨x0, x1, x2, hv, k0, k1, k2⟩ := (hT 43 rfl rfl)
 exact ⟨_, yl_extract (V := i64 ((0 : Nat) : Int)) hv (by rw [show x2 = i64 ((0 : Nat) : Int) from k2]; rfl), rfl⟩
 intro wl hwl hwh a16 wd16 N16 D16 hO hR hA hU
 have hS_16 : ExtE (fun k => wd15.heap.size ≤ k) wl wd16 := hR.toE
 replace hR := hwl.trans hR
 obtain ⟨_, _, _, _, _, _, _, _, t51, t52, t53, t11, t12, _⟩ := hA
 have E16 := E15.trans hR
 have s1_16 := oT hO s1_15 rfl
 have s5_16 := oT hO s5_15 rfl
 have s7_16 := oT hO s7_15 rfl
 have s9_16 := oT hO s9_15 rfl
 have s10_16 := oT hO s10_15 rfl
 have B2_16 := B2_15.ext' hR
 have B5_16 := B5_15.ext' hR
 have B7_16 := B7_15.ext' hR
 have X1_16 := X1_15.ext' hR
 have hsS_16 := hsS_15.ext' hR
 have hsxo_16 := hsxo_15.ext' hR
 have hoxo_16 := hoxo_15.ext' hR
 have s51_16 : get a16 51 = Value.agg #[w32 (seed).a, w32 (seed).b, w32 (seed).c, w32 (seed).d, i64 ((2 : Nat) : Int), i64 ((k + 1 : Nat) : Int)] := t51
 obtain ⟨x52_0_16, x52_1_16, s52_16, ky52_0_16, ky52_1_16⟩ := t52
 replace ky52_0_16 : OwnT DG wd15.heap.size 24 (signed (seedAt seed k) (linkOf z.recipe z.out)) x52_0_16 wd16 := ky52_0_16
 have nbo_x52_0_16_b2 := Ob1 ky52_0_16 B2_15
 have nbo_x52_0_16_b5 := Ob1 ky52_0_16 B5_15
 have nbo_x52_0_16_b7 := Ob1 ky52_0_16 B7_15
 have no_x52_0_16_xo := Oo ky52_0_16 hoxo_15
 have X52_0_16_16 := ky52_0_16.sl.wide (Nat.zero_le _) (.inl rfl)
 have O52_0_16_16 := OwnT.base ky52_0_16 E15.size'
 replace ky52_1_16 : OwnT DG wd15.heap.size 24 (way (publics seed (pw 2)) k) x52_1_16 wd16 := ky52_1_16
 have nbo_x52_1_16_b2 := Ob1 ky52_1_16 B2_15
 have nbo_x52_1_16_b5 := Ob1 ky52_1_16 B5_15
 have nbo_x52_1_16_b7 := Ob1 ky52_1_16 B7_15
 have no_x52_1_16_xo := Oo ky52_1_16 hoxo_15
 have X52_1_16_16 := ky52_1_16.sl.wide (Nat.zero_le _) (.inl rfl)
 have O52_1_16_16 := OwnT.base ky52_1_16 E15.size'
 have s53_16 : get a16 53 = i64 ((0 : Nat) : Int) := t53
 obtain ⟨b11, s11_16, lo_b11, B11_16⟩ := t11
 have ne_b2_b11 := Hl B2_15 lo_b11
 have ne_b5_b11 := Hl B5_15 lo_b11
 have ne_b7_b11 := Hl B7_15 lo_b11
 have nb_x1_b11 := SlT.old X1_15 lo_b11
 have nb_xo_b11 := SlT.old hsxo_15 lo_b11
 have nbo_xo_b11 := Ol hoxo_15 lo_b11
 have fr_b11 : w0.heap.size ≤ b11 := Nat.le_trans E15.size' lo_b11
 obtain ⟨b12, s12_16, lo_b12, B12_16⟩ := t12
 have ne_b2_b12 := Hl B2_15 lo_b12
 have ne_b5_b12 := Hl B5_15 lo_b12
 have ne_b7_b12 := Hl B7_15 lo_b12
 have nb_x1_b12 := SlT.old X1_15 lo_b12
 have nb_xo_b12 := SlT.old hsxo_15 lo_b12
 have nbo_xo_b12 := Ol hoxo_15 lo_b12
 have fr_b12 : w0.heap.size ≤ b12 := Nat.le_trans E15.size' lo_b12
 have nbo_x52_0_16_b11 := OwnT.typed O52_0_16_16 B11_16 (by decide)
 have nbo_x52_0_16_b12 := OwnT.typed O52_0_16_16 B12_16 (by decide)
 have nbo_x52_1_16_b11 := OwnT.typed O52_1_16_16 B11_16 (by decide)
 have nbo_x52_1_16_b12 := OwnT.typed O52_1_16_16 B12_16 (by decide)
 obtain ⟨u0, ⟨u1, _⟩⟩ := hU
 have ne_b11_b12 : b11 ≠ b12 := fun e => u0 12 (by decide) (by rw [s11_16, s12_16, e])
 clear E15 N15 D15 s1_15 s5_15 s7_15 s9_15 s10_15 s40_15 B2_15 B5_15 B7_15 X1_15 hsS_15 hsxo_15 hoxo_15
 refine tailS_none rfl rfl (does_storeD (o := 0) (n := 6) (cs' := [w32 (seed).a, w32 (seed).b, w32 (seed).c, w32 (seed).d, i64 ((2 : Nat) : Int), i64 ((k + 1 : Nat) : Int)]) (V := Value.agg #[w32 (seed).a, w32 (seed).b, w32 (seed).c, w32 (seed).d, i64 ((2 : Nat) : Int), i64 ((k + 1 : Nat) : Int)]) s11_16 s51_16 B11_16 (nB rfl) rfl siz_45 rfl rfl (fun wd17 hX hz B11_17 => ⟨hS_16.trans (hX.mono fun k _ e => (e ▸ (Nat.le_trans (Nat.le_refl _) lo_b11))), ?_⟩))
 have hS_17 := hS_16.trans (hX.mono (E' := (fun k => wd15.heap.size ≤ k)) fun k _ e => (e ▸ (Nat.le_trans (Nat.le_refl _) lo_b11)))
 have E17 := E16.since hX (fun k e => e ▸ fr_b11)
 have B2_17 := B2_16.ext hX ne_b2_b11
 have B5_17 := B5_16.ext hX ne_b5_b11
 have B7_17 := B7_16.ext hX ne_b7_b11
 have B12_17 := B12_16.ext hX ne_b11_b12.symm
 have X1_17 := SlT.over X1_16 hX nb_x1_b11
 have hsS_17 := Said.over hsS_16 B11_16 hX (by decide)
 have hsxo_17 := SlT.over hsxo_16 hX nb_xo_b11
 have X52_0_16_17 := SlT.over X52_0_16_16 hX (fun _ => nbo_x52_0_16_b11)
 have X52_1_16_17 := SlT.over X52_1_16_16 hX (fun _ => nbo_x52_1_16_b11)
 have hoxo_17 := OwnT.ext hoxo_16 hX (fun k hk e => nbo_xo_b11 (e ▸ hk))
 have O52_0_16_17 := OwnT.ext O52_0_16_16 hX (fun k hk e => nbo_x52_0_16_b11 (e ▸ hk))
 have O52_1_16_17 := OwnT.ext O52_1_16_16 hX (fun k hk e => nbo_x52_1_16_b11 (e ▸ hk))
 clear hX hz E16 B2_16 B5_16 B7_16 B11_16 B12_16 X1_16 hsS_16 hsxo_16 X52_0_16_16 X52_1_16_16 hoxo_16 O52_0_16_16 O52_1_16_16
 refine tailS_none rfl rfl (does_storeD (o := 0) (n := 3) (cs' := [i64 (k : Int), x52_0_16, x52_1_16]) (V := Value.agg #[i64 (k : Int), x52_0_16, x52_1_16]) s12_16 s52_16 B12_17 (nB rfl) rfl siz_30 (one_cons rfl (one_cons (SlT.one X52_0_16_17) (one_cons (SlT.one X52_1_16_17) one_nil))) rfl (fun wd18 hX hz B12_18 => ⟨hS_17.trans (hX.mono fun k _ e => (e ▸ (Nat.le_trans (Nat.le_refl _) lo_b12))), ?_⟩))
 have hS_18 := hS_17.trans (hX.mono (E' := (fun k => wd15.heap.size ≤ k)) fun k _ e => (e ▸ (Nat.le_trans (Nat.le_refl _) lo_b12)))
 have E18 := E17.since hX (fun k e => e ▸ fr_b12)
 have B2_18 := B2_17.ext hX ne_b2_b12
 have B5_18 := B5_17.ext hX ne_b5_b12
 have B7_18 := B7_17.ext hX ne_b7_b12
 have B11_18 := B11_17.ext hX ne_b11_b12
 have X1_18 := SlT.over X1_17 hX nb_x1_b12
 have hsS_18 := Said.over hsS_17 B12_17 hX (by decide)
 have hsxo_18 := SlT.over hsxo_17 hX nb_xo_b12
 have X52_0_16_18 := SlT.over X52_0_16_17 hX (fun _ => nbo_x52_0_16_b12)
 have X52_1_16_18 := SlT.over X52_1_16_17 hX (fun _ => nbo_x52_1_16_b12)
 have hoxo_18 := OwnT.ext hoxo_17 hX (fun k hk e => nbo_xo_b12 (e ▸ hk))
 have O52_0_16_18 := OwnT.ext O52_0_16_17 hX (fun k hk e => nbo_x52_0_16_b12 (e ▸ hk))
 have O52_1_16_18 := OwnT.ext O52_1_16_17 hX (fun k hk e => nbo_x52_1_16_b12 (e ▸ hk))
 clear hX hz E17 B2_17 B5_17 B7_17 B11_17 B12_17 X1_17 hsS_17 hsxo_17 X52_0_16_17 X52_1_16_17 hoxo_17 O52_0_16_17 O52_1_16_17
 refine tailS_put rfl rfl N16 D16 (by decide) (does_assign (V := i64 ((0 : Nat) : Int)) s53_16 (⟨hS_18, fun a19 N19 D19 hv hO => ?_⟩))
 have s13_19 := hv
 have s1_19 := oT hO s1_16 rfl
 have s5_19 := oT hO s5_16 rfl
 have s7_19 := oT hO s7_16 rfl
 have s9_19 := oT hO s9_16 rfl
 have s10_19 := oT hO s10_16 rfl
 have s11_19 := oT hO s11_16 rfl
 have s12_19 := oT hO s12_16 rfl
 clear hO hv N16 D16 s1_16 s5_16 s7_16 s9_16 s10_16 s11_16 s12_16 s51_16 s52_16 s53_16
 refine tailS_nil ?_
 refine wp_seq ?_
 refine wp_seq ?_
 refine Rl [] [(54, Pr.ex (i64 ((0 : Nat) : Int))), (55, Pr.ex (Value.bool (false)))] 2 N19 D19 ?_ ?_
 refine Ac ?_ (Ac ?_ (Az _))
 exact Am s13_19 rfl fun _ => rfl
 exact Ap fun aq wq _ hO hR hT => does_neq (a := ((0 : Nat) : Int)) (b := ((0 : Nat) : Int)) (hT 54 rfl rfl) rfl eR
 intro a20 wd20 N20 D20 hO hR hA hU
 obtain ⟨_, t55, _⟩ := hA
 have E20 := E18.trans hR
 have s1_20 := oT hO s1_19 rfl
 have s5_20 := oT hO s5_19 rfl
 have s7_20 := oT hO s7_19 rfl
 have s9_20 := oT hO s9_19 rfl
 have s10_20 := oT hO s10_19 rfl
 have s11_20 := oT hO s11_19 rfl
 have s12_20 := oT hO s12_19 rfl
 have B2_20 := B2_18.ext' hR
 have B5_20 := B5_18.ext' hR
 have B7_20 := B7_18.ext' hR
 have B11_20 := B11_18.ext' hR
 have B12_20 := B12_18.ext' hR
 have X1_20 := X1_18.ext' hR
 have hsS_20 := hsS_18.ext' hR
 have hsxo_20 := hsxo_18.ext' hR
 have X52_0_16_20 := X52_0_16_18.ext' hR
 have X52_1_16_20 := X52_1_16_18.ext' hR
 have hoxo_20 := hoxo_18.ext' hR
 have O52_0_16_20 := O52_0_16_18.ext' hR
 have O52_1_16_20 := O52_1_16_18.ext' hR
 have s55_20 : get a20 55 = Value.bool (false) := t55
 clear E18 N19 D19 s1_19 s5_19 s7_19 s9_19 s10_19 s11_19 s12_19 s13_19 B2_18 B5_18 B7_18 B11_18 B12_18 X1_18 hsS_18 hsxo_18 X52_0_16_18 X52_1_16_18 hoxo_18 O52_0_16_18 O52_1_16_18
 refine tail_nil ?_
 refine wp_ifF s55_20 ?_
 refine wp_skip ?_
 refine wp_seq ?_
 refine Rl [] [(56, Pr.ex (Value.agg #[w32 (seed).a, w32 (seed).b, w32 (seed).c, w32 (seed).d, i64 ((2 : Nat) : Int), i64 ((k + 1 : Nat) : Int)]))] 1 N20 D20 ?_ ?_
 refine Ac ?_ (Az _)
 exact Ap fun aq wq _ hO hR hT => does_loadD (o := 0) (n := 6) (mid := [w32 (seed).a, w32 (seed).b, w32 (seed).c, w32 (seed).d, i64 ((2 : Nat) : Int), i64 ((k + 1 : Nat) : Int)]) (oT hO s11_20 rfl) (B11_20.ext' hR) rfl rfl (nB rfl) row_45 rfl eR
 intro a21 wd21 N21 D21 hO hR hA hU
 obtain ⟨t56, _⟩ := hA
 have E21 := E20.trans hR
 have s1_21 := oT hO s1_20 rfl
 have s5_21 := oT hO s5_20 rfl
 have s7_21 := oT hO s7_20 rfl
 have s9_21 := oT hO s9_20 rfl
 have s10_21 := oT hO s10_20 rfl
 have s12_21 := oT hO s12_20 rfl
 have B2_21 := B2_20.ext' hR
 have B5_21 := B5_20.ext' hR
 have B7_21 := B7_20.ext' hR
 have B11_21 := B11_20.ext' hR
 have B12_21 := B12_20.ext' hR
 have X1_21 := X1_20.ext' hR
 have hsS_21 := hsS_20.ext' hR
 have hsxo_21 := hsxo_20.ext' hR
 have X52_0_16_21 := X52_0_16_20.ext' hR
 have X52_1_16_21 := X52_1_16_20.ext' hR
 have hoxo_21 := hoxo_20.ext' hR
 have O52_0_16_21 := O52_0_16_20.ext' hR
 have O52_1_16_21 := O52_1_16_20.ext' hR
 have s56_21 : get a21 56 = Value.agg #[w32 (seed).a, w32 (seed).b, w32 (seed).c, w32 (seed).d, i64 ((2 : Nat) : Int), i64 ((k + 1 : Nat) : Int)] := t56
 clear E20 N20 D20 s1_20 s5_20 s7_20 s9_20 s10_20 s11_20 s12_20 s55_20 B2_20 B5_20 B7_20 B11_20 B12_20 X1_20 hsS_20 hsxo_20 X52_0_16_20 X52_1_16_20 hoxo_20 O52_0_16_20 O52_1_16_20
 refine tail_none rfl rfl (does_storeD (o := 0) (n := 6) (cs' := [w32 (seed).a, w32 (seed).b, w32 (seed).c, w32 (seed).d, i64 ((2 : Nat) : Int), i64 ((k + 1 : Nat) : Int)]) (V := Value.agg #[w32 (seed).a, w32 (seed).b, w32 (seed).c, w32 (seed).d, i64 ((2 : Nat) : Int), i64 ((k + 1 : Nat) : Int)]) s5_21 s56_21 B5_21 (nB rfl) rfl siz_45 rfl rfl (fun wd22 hX hz B5_22 => ?_))
 have E22 := E21.since hX (fun k e => e ▸ fr_b5)
 have B2_22 := B2_21.ext hX ne_b2_b5
 have B7_22 := B7_21.ext hX ne_b5_b7.symm
 have B11_22 := B11_21.ext hX ne_b5_b11.symm
 have B12_22 := B12_21.ext hX ne_b5_b12.symm
 have X1_22 := SlT.over X1_21 hX nb_x1_b5
 have hsS_22 := Said.over hsS_21 B5_21 hX (by decide)
 have hsxo_22 := SlT.over hsxo_21 hX (fun _ => nbo_xo_b5)
 have X52_0_16_22 := SlT.over X52_0_16_21 hX (fun _ => nbo_x52_0_16_b5)
 have X52_1_16_22 := SlT.over X52_1_16_21 hX (fun _ => nbo_x52_1_16_b5)
 have hoxo_22 := OwnT.ext hoxo_21 hX (fun k hk e => nbo_xo_b5 (e ▸ hk))
 have O52_0_16_22 := OwnT.ext O52_0_16_21 hX (fun k hk e => nbo_x52_0_16_b5 (e ▸ hk))
 have O52_1_16_22 := OwnT.ext O52_1_16_21 hX (fun k hk e => nbo_x52_1_16_b5 (e ▸ hk))
 clear hX hz E21 B2_21 B5_21 B7_21 B11_21 B12_21 X1_21 hsS_21 hsxo_21 X52_0_16_21 X52_1_16_21 hoxo_21 O52_0_16_21 O52_1_16_21
 refine tail_nil ?_
 have one_x52_0_16 := SlT.one X52_0_16_22
 have one_x52_1_16 := SlT.one X52_1_16_22
 refine Rl [] [(57, Pr.ex (xo)), (58, Pr.ex (Dg.val (root (publics seed (pw 2))))), (59, Pr.ex (Value.agg #[i64 (k : Int), x52_0_16, x52_1_16])), (60, Pr.ex (Value.agg #[w32 (root (publics seed (pw 2))).a, w32 (root (publics seed (pw 2))).b, w32 (root (publics seed (pw 2))).c, w32 (root (publics seed (pw 2))).d, i64 (k : Int), x52_0_16, x52_1_16])), (61, Pr.own' SG wd22.heap.size 32 ([(⟨root (publics seed (pw 2)), (k : Int), x52_0_16, x52_1_16, one_x52_0_16, one_x52_1_16⟩ : Sg)]))] 5 N21 D21 ?_ ?_
 refine Ac ?_ (Ac ?_ (Ac ?_ (Ac ?_ (Ac ?_ (Az _)))))
 exact Am s9_21 rfl fun _ => rfl
 exact Ap fun aq wq _ hO hR hT => does_loadD (o := 0) (n := 4) (mid := [w32 (root (publics seed (pw 2))).a, w32 (root (publics seed (pw 2))).b, w32 (root (publics seed (pw 2))).c, w32 (root (publics seed (pw 2))).d]) (oT hO s7_21 rfl) (B7_22.ext' hR) rfl rfl (nB rfl) row_24 rfl eR
 exact Ap fun aq wq _ hO hR hT => does_loadD (o := 0) (n := 3) (mid := [i64 (k : Int), x52_0_16, x52_1_16]) (oT hO s12_21 rfl) (B12_22.ext' hR) rfl rfl (nB rfl) row_30 rfl eR
 exact Ap fun aq wq _ hO hR hT => does_build (vs := #[(0, Dg.val (root (publics seed (pw 2)))), (1, Value.agg #[i64 (k : Int), x52_0_16, x52_1_16])]) (V := Value.agg #[w32 (root (publics seed (pw 2))).a, w32 (root (publics seed (pw 2))).b, w32 (root (publics seed (pw 2))).c, w32 (root (publics seed (pw 2))).d, i64 (k : Int), x52_0_16, x52_1_16]) (parts2 (hT 58 rfl rfl) (hT 59 rfl rfl)) (by kernel_rfl) eR
 exact Ap fun aq wq _ hO hR hT => does_slice1 (T := SG) (X := (⟨root (publics seed (pw 2)), (k : Int), x52_0_16, x52_1_16, one_x52_0_16, one_x52_1_16⟩ : Sg)) (V := Value.agg #[w32 (root (publics seed (pw 2))).a, w32 (root (publics seed (pw 2))).b, w32 (root (publics seed (pw 2))).c, w32 (root (publics seed (pw 2))).d, i64 (k : Int), x52_0_16, x52_1_16]) app_55 rfl (by decide) (hT 60 rfl rfl) rfl (fun v w2 he _ ho => ⟨he, OwnT.base ho hR.size'⟩)
 intro a23 wd23 N23 D23 hO hR hA hU
 obtain ⟨t57, _, _, _, t61, _⟩ := hA
 have E23 := E22.trans hR
 have s1_23 := oT hO s1_21 rfl
 have s5_23 := oT hO s5_21 rfl
 have s7_23 := oT hO s7_21 rfl
 have s9_23 := oT hO s9_21 rfl
 have s10_23 := oT hO s10_21 rfl
 have B2_23 := B2_22.ext' hR
 have B5_23 := B5_22.ext' hR
 have B7_23 := B7_22.ext' hR
 have B11_23 := B11_22.ext' hR
 have B12_23 := B12_22.ext' hR
 have X1_23 := X1_22.ext' hR
 have hsS_23 := hsS_22.ext' hR
 have hsxo_23 := hsxo_22.ext' hR
 have X52_0_16_23 := X52_0_16_22.ext' hR
 have X52_1_16_23 := X52_1_16_22.ext' hR
 have hoxo_23 := hoxo_22.ext' hR
 have O52_0_16_23 := O52_0_16_22.ext' hR
 have O52_1_16_23 := O52_1_16_22.ext' hR
 have s57_23 : get a23 57 = xo := t57
 obtain ⟨x61, s61_23⟩ : ∃ x, get a23 61 = x := ⟨_, rfl⟩
 replace t61 : OwnT SG wd22.heap.size 32 ([(⟨root (publics seed (pw 2)), (k : Int), x52_0_16, x52_1_16, one_x52_0_16, one_x52_1_16⟩ : Sg)]) x61 wd23 := by rw [← s61_23]; exact t61
 have nbo_x61_b2 := Ob1 t61 B2_22
 have nbo_x61_b5 := Ob1 t61 B5_22
 have nbo_x61_b7 := Ob1 t61 B7_22
 have nbo_x61_b11 := Ob1 t61 B11_22
 have nbo_x61_b12 := Ob1 t61 B12_22
 have no_x61_xo := Oo t61 hoxo_22
 have no_x61_x52_0_16 := Oo t61 O52_0_16_22
 have no_x61_x52_1_16 := Oo t61 O52_1_16_22
 have X61_23 := t61.sl.wide (Nat.zero_le _) (.inl rfl)
 have O61_23 := OwnT.base t61 E22.size'
 clear E22 N21 D21 s1_21 s5_21 s7_21 s9_21 s10_21 s12_21 s56_21 B2_22 B5_22 B7_22 B11_22 B12_22 X1_22 hsS_22 hsxo_22 X52_0_16_22 X52_1_16_22 hoxo_22 O52_0_16_22 O52_1_16_22
 refine tail_put rfl rfl N23 D23 (by decide) (does_append (T := SG) (base := w0.heap.size) (xs := S) (ys := [(⟨root (publics seed (pw 2)), (k : Int), x52_0_16, x52_1_16, one_x52_0_16, one_x52_1_16⟩ : Sg)]) (v := xo) app_55 s57_23 hoxo_23 (SlT.at s61_23 X61_23) (by simp) (by simp only [List.length_cons, List.length_nil]; omega) (by simp only [List.length_cons, List.length_nil]; omega) E23.size' (fun x62 wd24 hX O62_24 hk a24 N24 D24 hv hO => ?_))
 have E24 := E23.since hX (fun b hb => Nat.le_trans (Nat.le_refl _) (OwnT.block_lt hoxo_23 hb).1)
 have B2_24 := B2_23.ext hX nbo_xo_b2
 have nbo_x62_b2 : x62.ownBlock ≠ some b2 := fun e => (hk _ e).elim nbo_xo_b2 (fun h => Nat.lt_irrefl _ (Nat.lt_of_lt_of_le B2_23.lt h))
 have B5_24 := B5_23.ext hX nbo_xo_b5
 have nbo_x62_b5 : x62.ownBlock ≠ some b5 := fun e => (hk _ e).elim nbo_xo_b5 (fun h => Nat.lt_irrefl _ (Nat.lt_of_lt_of_le B5_23.lt h))
 have B7_24 := B7_23.ext hX nbo_xo_b7
 have nbo_x62_b7 : x62.ownBlock ≠ some b7 := fun e => (hk _ e).elim nbo_xo_b7 (fun h => Nat.lt_irrefl _ (Nat.lt_of_lt_of_le B7_23.lt h))
 have B11_24 := B11_23.ext hX nbo_xo_b11
 have nbo_x62_b11 : x62.ownBlock ≠ some b11 := fun e => (hk _ e).elim nbo_xo_b11 (fun h => Nat.lt_irrefl _ (Nat.lt_of_lt_of_le B11_23.lt h))
 have B12_24 := B12_23.ext hX nbo_xo_b12
 have nbo_x62_b12 : x62.ownBlock ≠ some b12 := fun e => (hk _ e).elim nbo_xo_b12 (fun h => Nat.lt_irrefl _ (Nat.lt_of_lt_of_le B12_23.lt h))
 have X1_24 := SlT.overOwn X1_23 hoxo_23 hX
 have hsS_24 := Said.app hsS_23 hX hoxo_23 (by decide)
 have O52_0_16_24 := OwnT.ext O52_0_16_23 hX (fun k hk e => no_x52_0_16_xo k hk e)
 have no_x62_x52_0_16 : ∀ k, x62.ownBlock = some k → x52_0_16.ownBlock ≠ some k := fun k e e' => (hk k e).elim (fun h => no_x52_0_16_xo k e' h) (fun h => Nat.lt_irrefl _ (Nat.lt_of_lt_of_le (OwnT.block_lt O52_0_16_23 e').2 h))
 have X52_0_16_24 := O52_0_16_24.sl.wide (Nat.zero_le _) (.inl rfl)
 have O52_1_16_24 := OwnT.ext O52_1_16_23 hX (fun k hk e => no_x52_1_16_xo k hk e)
 have no_x62_x52_1_16 : ∀ k, x62.ownBlock = some k → x52_1_16.ownBlock ≠ some k := fun k e e' => (hk k e).elim (fun h => no_x52_1_16_xo k e' h) (fun h => Nat.lt_irrefl _ (Nat.lt_of_lt_of_le (OwnT.block_lt O52_1_16_23 e').2 h))
 have X52_1_16_24 := O52_1_16_24.sl.wide (Nat.zero_le _) (.inl rfl)
 have O61_24 := OwnT.ext O61_23 hX (fun k hk e => no_x61_xo k hk e)
 have no_x62_x61 : ∀ k, x62.ownBlock = some k → x61.ownBlock ≠ some k := fun k e e' => (hk k e).elim (fun h => no_x61_xo k e' h) (fun h => Nat.lt_irrefl _ (Nat.lt_of_lt_of_le (OwnT.block_lt O61_23 e').2 h))
 have X61_24 := O61_24.sl.wide (Nat.zero_le _) (.inl rfl)
 have X62_24 := O62_24.sl.wide (Nat.zero_le _) (.inl rfl)
 have s62_24 := hv
 have s1_24 := oT hO s1_23 rfl
 have s5_24 := oT hO s5_23 rfl
 have s7_24 := oT hO s7_23 rfl
 have s9_24 := oT hO s9_23 rfl
 have s10_24 := oT hO s10_23 rfl
 clear hO hv hX hk N23 D23 E23 B2_23 B5_23 B7_23 B11_23 B12_23 X1_23 hsS_23 O52_0_16_23 O52_1_16_23 O61_23 s1_23 s5_23 s7_23 s9_23 s10_23 s57_23 s61_23
 refine tail_put rfl rfl N24 D24 (by decide) (does_assign (V := x62) s62_24 (fun a25 N25 D25 hv hO => ?_))
 have s9_25 := hv
 have s1_25 := oT hO s1_24 rfl
 have s5_25 := oT hO s5_24 rfl
 have s7_25 := oT hO s7_24 rfl
 have s10_25 := oT hO s10_24 rfl
 clear hO hv N24 D24 s1_24 s5_24 s7_24 s10_24 s62_24 s9_24
 refine tail_nil ?_
 refine Rl [] [(41, Pr.ex (i64 (k : Int))), (42, Pr.ex (i64 ((k + 1 : Nat) : Int)))] 2 N25 D25 ?_ ?_
 refine Ac ?_ (Ac ?_ (Az _))
 exact Am s10_25 rfl fun _ => rfl
 exact Ap fun aq wq _ hO hR hT => does_add (a := (k : Int)) (b := ((1 : Nat) : Int)) (r := ((k + 1 : Nat) : Int)) (hT 41 rfl rfl) rfl (by omega) (by omega) (by omega) eR
 intro a26 wd26 N26 D26 hO hR hA hU
 obtain ⟨_, t42, _⟩ := hA
 have E26 := E24.trans hR
 have s1_26 := oT hO s1_25 rfl
 have s5_26 := oT hO s5_25 rfl
 have s7_26 := oT hO s7_25 rfl
 have s9_26 := oT hO s9_25 rfl
 have s10_26 := oT hO s10_25 rfl
 have B2_26 := B2_24.ext' hR
 have B5_26 := B5_24.ext' hR
 have B7_26 := B7_24.ext' hR
 have B11_26 := B11_24.ext' hR
 have B12_26 := B12_24.ext' hR
 have X1_26 := X1_24.ext' hR
 have hsS_26 := hsS_24.ext' hR
 have X52_0_16_26 := X52_0_16_24.ext' hR
 have X52_1_16_26 := X52_1_16_24.ext' hR
 have X61_26 := X61_24.ext' hR
 have X62_26 := X62_24.ext' hR
 have O52_0_16_26 := O52_0_16_24.ext' hR
 have O52_1_16_26 := O52_1_16_24.ext' hR
 have O61_26 := O61_24.ext' hR
 have O62_26 := O62_24.ext' hR
 have s42_26 : get a26 42 = i64 ((k + 1 : Nat) : Int) := t42
 clear E24 N25 D25 s1_25 s5_25 s7_25 s9_25 s10_25 B2_24 B5_24 B7_24 B11_24 B12_24 X1_24 hsS_24 X52_0_16_24 X52_1_16_24 X61_24 X62_24 O52_0_16_24 O52_1_16_24 O61_24 O62_24
 refine tail_put rfl rfl N26 D26 (by decide) (does_assign (V := i64 ((k + 1 : Nat) : Int)) s42_26 (fun a27 N27 D27 hv hO => ?_))
 have s10_27 := hv
 have s1_27 := oT hO s1_26 rfl
 have s5_27 := oT hO s5_26 rfl
 have s7_27 := oT hO s7_26 rfl
 have s9_27 := oT hO s9_26 rfl
 clear hO hv N26 D26 s1_26 s5_26 s7_26 s9_26 s42_26 s10_26
 refine tail_nil ?_
 exact ⟨_, by omega, k + 1, x62, S ++ [(⟨root (publics seed (pw 2)), (k : Int), x52_0_16, x52_1_16, one_x52_0_16, one_x52_1_16⟩ : Sg)], rfl, N27, D27, s1_27, s5_27, s7_27, s9_27, s10_27, E26, B2_26, B5_26, B7_26, X1_26, (Said.snoc hsS_26 hSl hz O52_0_16_26 O52_1_16_26), O62_26, nbo_x62_b2, nbo_x62_b5, nbo_x62_b7, by omega, by simp only [List.length_append, List.length_cons, List.length_nil]; omega⟩
 have hc2 := of_decide_eq_false hc2
 have hkl : k = l.length := by omega
 refine wp_exit ?_
 refine wp_seq ?_
 refine wp_seq ?_
 refine Rl [] [(14, Pr.ex (i64 ((0 : Nat) : Int)))] 1 N15 D15 ?_ ?_
 refine Ac ?_ (Az _)
 exact Ap fun aq wq _ hO hR hT => does_assign (V := i64 ((0 : Nat) : Int)) rfl eR
 intro a28 wd28 N28 D28 hO hR hA hU
 obtain ⟨t14, _⟩ := hA
 have E28 := E15.trans hR
 have s1_28 := oT hO s1_15 rfl
 have s9_28 := oT hO s9_15 rfl
 have B2_28 := B2_15.ext' hR
 have B5_28 := B5_15.ext' hR
 have B7_28 := B7_15.ext' hR
 have X1_28 := X1_15.ext' hR
 have hsS_28 := hsS_15.ext' hR
 have hsxo_28 := hsxo_15.ext' hR
 have hoxo_28 := hoxo_15.ext' hR
 have s14_28 : get a28 14 = i64 ((0 : Nat) : Int) := t14
 clear E15 N15 D15 s1_15 s5_15 s7_15 s9_15 s10_15 s40_15 B2_15 B5_15 B7_15 X1_15 hsS_15 hsxo_15 hoxo_15
 refine tail_nil ?_
 refine wp_block ?_
 refine loop_g (fun mz az wz => ∃ a : Nat, mz = l.length - a ∧ (az.tmps.size = 117) ∧ (az.defers = []) ∧ (get az 1 = x1) ∧ (get az 9 = xo) ∧ (get az 14 = i64 (a : Int)) ∧ (Ext w0 wz) ∧ (Has wz b2 24 [w32 (seed).a, w32 (seed).b, w32 (seed).c, w32 (seed).d]) ∧ (Has wz b5 45 [w32 (seed).a, w32 (seed).b, w32 (seed).c, w32 (seed).d, i64 ((2 : Nat) : Int), i64 (k : Int)]) ∧ (Has wz b7 24 [w32 (root (publics seed (pw 2))).a, w32 (root (publics seed (pw 2))).b, w32 (root (publics seed (pw 2))).c, w32 (root (publics seed (pw 2))).d]) ∧ (SlT LK 0 (w0.heap.size + 1) (l) x1 wz) ∧ (Said seed 2 l w0.heap.size 24 S wz) ∧ (SlT SG 0 0 (S) xo wz)) ?_ ?_
 exact ⟨_, 0, rfl, N28, D28, s1_28, s9_28, s14_28, E28, B2_28, B5_28, B7_28, X1_28, hsS_28, hsxo_28⟩
 rintro mz a29 wd29 ⟨a, rfl, N29, D29, s1_29, s9_29, s14_29, E29, B2_29, B5_29, B7_29, X1_29, hsS_29, hsxo_29⟩
 refine wp_seq ?_
 refine wp_seq ?_
 refine Rl [] [(63, Pr.ex (i64 (a : Int))), (64, Pr.ex (x1)), (65, Pr.ex (i64 (l.length : Int))), (66, Pr.ex (Value.bool (decide ((a : Int) < (l.length : Int)))))] 4 N29 D29 ?_ ?_
 refine Ac ?_ (Ac ?_ (Ac ?_ (Ac ?_ (Az _))))
 exact Am s14_29 rfl fun _ => rfl
 exact Am s1_29 rfl fun _ => rfl
 exact Ap fun aq wq _ hO hR hT => does_len (T := LK) (xs := l) sli_54 (SlT.at (hT 64 rfl rfl) (X1_29.ext' hR)) eR
 exact Ap fun aq wq _ hO hR hT => does_lss (a := (a : Int)) (b := (l.length : Int)) (hT 63 rfl rfl) (hT 65 rfl rfl) eR
 intro a30 wd30 N30 D30 hO hR hA hU
 obtain ⟨_, _, _, t66, _⟩ := hA
 have E30 := E29.trans hR
 have s1_30 := oT hO s1_29 rfl
 have s9_30 := oT hO s9_29 rfl
 have s14_30 := oT hO s14_29 rfl
 have B2_30 := B2_29.ext' hR
 have B5_30 := B5_29.ext' hR
 have B7_30 := B7_29.ext' hR
 have X1_30 := X1_29.ext' hR
 have hsS_30 := hsS_29.ext' hR
 have hsxo_30 := hsxo_29.ext' hR
 have s66_30 : get a30 66 = Value.bool (decide ((a : Int) < (l.length : Int))) := t66
 clear E29 N29 D29 s1_29 s9_29 s14_29 B2_29 B5_29 B7_29 X1_29 hsS_29 hsxo_29
 refine tail_nil ?_
 refine wp_if (B := decide ((a : Int) < (l.length : Int))) s66_30 (fun hc3 => ?_) (fun hc3 => ?_)
 have hc3 := of_decide_eq_true hc3
 have ha : a < pw 2 := by show a < 4; omega
 refine wp_skip ?_
 refine wp_seq ?_
 refine wp_block ?_
 refine wp_seq ?_
 refine Rl [] [(15, Pr.ex (i64 ((0 : Nat) : Int)))] 1 N30 D30 ?_ ?_
 refine Ac ?_ (Az _)
 exact Ap fun aq wq _ hO hR hT => does_assign (V := i64 ((0 : Nat) : Int)) rfl eR
 intro a31 wd31 N31 D31 hO hR hA hU
 obtain ⟨t15, _⟩ := hA
 have E31 := E30.trans hR
 have s1_31 := oT hO s1_30 rfl
 have s9_31 := oT hO s9_30 rfl
 have s14_31 := oT hO s14_30 rfl
 have B2_31 := B2_30.ext' hR
 have B5_31 := B5_30.ext' hR
 have B7_31 := B7_30.ext' hR
 have X1_31 := X1_30.ext' hR
 have hsS_31 := hsS_30.ext' hR
 have hsxo_31 := hsxo_30.ext' hR
 have s15_31 : get a31 15 = i64 ((0 : Nat) : Int) := t15
 clear E30 N30 D30 s1_30 s9_30 s14_30 s66_30 B2_30 B5_30 B7_30 X1_30 hsS_30 hsxo_30
 refine tail_nil ?_
 refine wp_block ?_
 refine loop_g (fun mz az wz => ∃ c : Nat, mz = l.length - c ∧ (az.tmps.size = 117) ∧ (az.defers = []) ∧ (get az 1 = x1) ∧ (get az 9 = xo) ∧ (get az 14 = i64 (a : Int)) ∧ (get az 15 = i64 (c : Int)) ∧ (Ext w0 wz) ∧ (Has wz b2 24 [w32 (seed).a, w32 (seed).b, w32 (seed).c, w32 (seed).d]) ∧ (Has wz b5 45 [w32 (seed).a, w32 (seed).b, w32 (seed).c, w32 (seed).d, i64 ((2 : Nat) : Int), i64 (k : Int)]) ∧ (Has wz b7 24 [w32 (root (publics seed (pw 2))).a, w32 (root (publics seed (pw 2))).b, w32 (root (publics seed (pw 2))).c, w32 (root (publics seed (pw 2))).d]) ∧ (SlT LK 0 (w0.heap.size + 1) (l) x1 wz) ∧ (Said seed 2 l w0.heap.size 24 S wz) ∧ (SlT SG 0 0 (S) xo wz)) ?_ ?_
 exact ⟨_, 0, rfl, N31, D31, s1_31, s9_31, s14_31, s15_31, E31, B2_31, B5_31, B7_31, X1_31, hsS_31, hsxo_31⟩
 rintro mz a32 wd32 ⟨c, rfl, N32, D32, s1_32, s9_32, s14_32, s15_32, E32, B2_32, B5_32, B7_32, X1_32, hsS_32, hsxo_32⟩
 refine wp_seq ?_
 refine wp_seq ?_
 refine Rl [] [(69, Pr.ex (i64 (c : Int))), (70, Pr.ex (x1)), (71, Pr.ex (i64 (l.length : Int))), (72, Pr.ex (Value.bool (decide ((c : Int) < (l.length : Int)))))] 4 N32 D32 ?_ ?_
 refine Ac ?_ (Ac ?_ (Ac ?_ (Ac ?_ (Az _))))
 exact Am s15_32 rfl fun _ => rfl
 exact Am s1_32 rfl fun _ => rfl
 exact Ap fun aq wq _ hO hR hT => does_len (T := LK) (xs := l) sli_54 (SlT.at (hT 70 rfl rfl) (X1_32.ext' hR)) eR
 exact Ap fun aq wq _ hO hR hT => does_lss (a := (c : Int)) (b := (l.length : Int)) (hT 69 rfl rfl) (hT 71 rfl rfl) eR
 intro a33 wd33 N33 D33 hO hR hA hU
 obtain ⟨_, _, _, t72, _⟩ := hA
 have E33 := E32.trans hR
 have s1_33 := oT hO s1_32 rfl
 have s9_33 := oT hO s9_32 rfl
 have s14_33 := oT hO s14_32 rfl
 have s15_33 := oT hO s15_32 rfl
 have B2_33 := B2_32.ext' hR
 have B5_33 := B5_32.ext' hR
 have B7_33 := B7_32.ext' hR
 have X1_33 := X1_32.ext' hR
 have hsS_33 := hsS_32.ext' hR
 have hsxo_33 := hsxo_32.ext' hR
 have s72_33 : get a33 72 = Value.bool (decide ((c : Int) < (l.length : Int))) := t72
 clear E32 N32 D32 s1_32 s9_32 s14_32 s15_32 B2_32 B5_32 B7_32 X1_32 hsS_32 hsxo_32
 refine tail_nil ?_
 refine wp_if (B := decide ((c : Int) < (l.length : Int))) s72_33 (fun hc4 => ?_) (fun hc4 => ?_)
 have hc4 := of_decide_eq_true hc4
 have hc : c < pw 2 := by show c < 4; omega
 refine wp_skip ?_
 refine wp_seq ?_
 refine wp_block ?_
 refine wp_seq ?_
 obtain ⟨⟨bA, iA, xA, yA, oA1, oA2⟩, hgA⟩ := get_of_lt (l := S) (k := a) (by omega)
 obtain ⟨zA, hzA, hbA, hiA, hpA, hqA⟩ := hsS_33 a _ hgA
 obtain rfl : bA = root (publics seed (pw 2)) := hbA
 obtain rfl : iA = (a : Int) := hiA
 have hsxA_33 : SlT DG 0 0 (signed (seedAt seed a) (linkOf zA.recipe zA.out)) xA wd33 := hpA.sl.wide (Nat.zero_le _) (.inl rfl)
 have hsyA_33 : SlT DG 0 0 (way (publics seed (pw 2)) a) yA wd33 := hqA.sl.wide (Nat.zero_le _) (.inl rfl)
 obtain ⟨⟨bC, iC, xC, yC, oC1, oC2⟩, hgC⟩ := get_of_lt (l := S) (k := c) (by omega)
 obtain ⟨zC, hzC, hbC, hiC, hpC, hqC⟩ := hsS_33 c _ hgC
 obtain rfl : bC = root (publics seed (pw 2)) := hbC
 obtain rfl : iC = (c : Int) := hiC
 have hsxC_33 : SlT DG 0 0 (signed (seedAt seed c) (linkOf zC.recipe zC.out)) xC wd33 := hpC.sl.wide (Nat.zero_le _) (.inl rfl)
 have hsyC_33 : SlT DG 0 0 (way (publics seed (pw 2)) c) yC wd33 := hqC.sl.wide (Nat.zero_le _) (.inl rfl)
 refine Ra [] [(75, Pr.ex (x1)), (76, Pr.ex (i64 (a : Int))), (77, Pr.pt' 0 (w0.heap.size + 1) [w32 (zA.recipe).a, w32 (zA.recipe).b, w32 (zA.recipe).c, w32 (zA.recipe).d, w32 (zA.out).a, w32 (zA.out).b, w32 (zA.out).c, w32 (zA.out).d]), (78, Pr.ex (Value.agg #[w32 (zA.recipe).a, w32 (zA.recipe).b, w32 (zA.recipe).c, w32 (zA.recipe).d, w32 (zA.out).a, w32 (zA.out).b, w32 (zA.out).c, w32 (zA.out).d])), (79, Pr.ex (xo)), (80, Pr.ex (i64 (a : Int))), (81, Pr.pt' 0 0 [w32 (root (publics seed (pw 2))).a, w32 (root (publics seed (pw 2))).b, w32 (root (publics seed (pw 2))).c, w32 (root (publics seed (pw 2))).d, i64 (a : Int), xA, yA]), (82, Pr.ex (Value.agg #[w32 (root (publics seed (pw 2))).a, w32 (root (publics seed (pw 2))).b, w32 (root (publics seed (pw 2))).c, w32 (root (publics seed (pw 2))).d, i64 (a : Int), xA, yA])), (83, Pr.ex (x1)), (84, Pr.ex (i64 (c : Int))), (85, Pr.pt' 0 (w0.heap.size + 1) [w32 (zC.recipe).a, w32 (zC.recipe).b, w32 (zC.recipe).c, w32 (zC.recipe).d, w32 (zC.out).a, w32 (zC.out).b, w32 (zC.out).c, w32 (zC.out).d]), (86, Pr.ex (Value.agg #[w32 (zC.recipe).a, w32 (zC.recipe).b, w32 (zC.recipe).c, w32 (zC.recipe).d, w32 (zC.out).a, w32 (zC.out).b, w32 (zC.out).c, w32 (zC.out).d])), (87, Pr.ex (xo)), (88, Pr.ex (i64 (c : Int))), (89, Pr.pt' 0 0 [w32 (root (publics seed (pw 2))).a, w32 (root (publics seed (pw 2))).b, w32 (root (publics seed (pw 2))).c, w32 (root (publics seed (pw 2))).d, i64 (c : Int), xC, yC]), (90, Pr.ex (Value.agg #[w32 (root (publics seed (pw 2))).a, w32 (root (publics seed (pw 2))).b, w32 (root (publics seed (pw 2))).c, w32 (root (publics seed (pw 2))).d, i64 (c : Int), xC, yC])), (91, Pr.ex (Value.bool (twiceB (root (publics seed (pw 2))) zA.recipe zA.out ((a : Int)) (signed (seedAt seed a) (linkOf zA.recipe zA.out)) (way (publics seed (pw 2)) a) (root (publics seed (pw 2))) zC.recipe zC.out ((c : Int)) (signed (seedAt seed c) (linkOf zC.recipe zC.out)) (way (publics seed (pw 2)) c)))), (92, Pr.ex (x1)), (93, Pr.ex (i64 (a : Int))), (94, Pr.pt' 0 (w0.heap.size + 1) [w32 (zA.recipe).a, w32 (zA.recipe).b, w32 (zA.recipe).c, w32 (zA.recipe).d, w32 (zA.out).a, w32 (zA.out).b, w32 (zA.out).c, w32 (zA.out).d]), (95, Pr.pt' 0 (w0.heap.size + 1) [w32 (zA.recipe).a, w32 (zA.recipe).b, w32 (zA.recipe).c, w32 (zA.recipe).d]), (96, Pr.ex (Dg.val (zA.recipe))), (97, Pr.ex (x1)), (98, Pr.ex (i64 (c : Int))), (99, Pr.pt' 0 (w0.heap.size + 1) [w32 (zC.recipe).a, w32 (zC.recipe).b, w32 (zC.recipe).c, w32 (zC.recipe).d, w32 (zC.out).a, w32 (zC.out).b, w32 (zC.out).c, w32 (zC.out).d]), (100, Pr.pt' 0 (w0.heap.size + 1) [w32 (zC.recipe).a, w32 (zC.recipe).b, w32 (zC.recipe).c, w32 (zC.recipe).d]), (101, Pr.ex (Dg.val (zC.recipe))), (102, Pr.ex (Value.bool (decide (zA.recipe = zC.recipe)))), (103, Pr.ex (Value.bool (decide (zA.recipe = zC.recipe)))), (104, Pr.ifb (decide (zA.recipe = zC.recipe)) (Pr.ex (x1))), (105, Pr.ifb (decide (zA.recipe = zC.recipe)) (Pr.ex (i64 (a : Int)))), (106, Pr.ifb (decide (zA.recipe = zC.recipe)) (Pr.pt' 0 (w0.heap.size + 1) [w32 (zA.recipe).a, w32 (zA.recipe).b, w32 (zA.recipe).c, w32 (zA.recipe).d, w32 (zA.out).a, w32 (zA.out).b, w32 (zA.out).c, w32 (zA.out).d])), (107, Pr.ifb (decide (zA.recipe = zC.recipe)) (Pr.pt' 0 (w0.heap.size + 1) [w32 (zA.out).a, w32 (zA.out).b, w32 (zA.out).c, w32 (zA.out).d])), (108, Pr.ifb (decide (zA.recipe = zC.recipe)) (Pr.ex (Dg.val (zA.out)))), (109, Pr.ifb (decide (zA.recipe = zC.recipe)) (Pr.ex (x1))), (110, Pr.ifb (decide (zA.recipe = zC.recipe)) (Pr.ex (i64 (c : Int)))), (111, Pr.ifb (decide (zA.recipe = zC.recipe)) (Pr.pt' 0 (w0.heap.size + 1) [w32 (zC.recipe).a, w32 (zC.recipe).b, w32 (zC.recipe).c, w32 (zC.recipe).d, w32 (zC.out).a, w32 (zC.out).b, w32 (zC.out).c, w32 (zC.out).d])), (112, Pr.ifb (decide (zA.recipe = zC.recipe)) (Pr.pt' 0 (w0.heap.size + 1) [w32 (zC.out).a, w32 (zC.out).b, w32 (zC.out).c, w32 (zC.out).d])), (113, Pr.ifb (decide (zA.recipe = zC.recipe)) (Pr.ex (Dg.val (zC.out)))), (114, Pr.ifb (decide (zA.recipe = zC.recipe)) (Pr.ex (Value.bool (!decide (zA.out = zC.out))))), (115, Pr.ex (Value.bool ((decide (zA.recipe = zC.recipe)) && (!decide (zA.out = zC.out))))), (116, Pr.ex (Value.bool (!((twiceB (root (publics seed (pw 2))) zA.recipe zA.out ((a : Int)) (signed (seedAt seed a) (linkOf zA.recipe zA.out)) (way (publics seed (pw 2)) a) (root (publics seed (pw 2))) zC.recipe zC.out ((c : Int)) (signed (seedAt seed c) (linkOf zC.recipe zC.out)) (way (publics seed (pw 2)) c)) == ((decide (zA.recipe = zC.recipe)) && (!decide (zA.out = zC.out)))))))] 42 mixed N33 D33 ?_ ?_
 refine Ac ?_ (Ac ?_ (Ac ?_ (Ac ?_ (Ac ?_ (Ac ?_ (Ac ?_ (Ac ?_ (Ac ?_ (Ac ?_ (Ac ?_ (Ac ?_ (Ac ?_ (Ac ?_ (Ac ?_ (Ac ?_ (Ac ?_ (Ac ?_ (Ac ?_ (Ac ?_ (Ac ?_ (Ac ?_ (Ac ?_ (Ac ?_ (Ac ?_ (Ac ?_ (Ac ?_ (Ac ?_ (Ac ?_ (Ac ?_ (Ac ?_ (Ac ?_ (Ac ?_ (Ac ?_ (Ac ?_ (Ac ?_ (Ac ?_ (Ac ?_ (Ac ?_ (Ac ?_ (Ac ?_ (Ac ?_ (Az _))))))))))))))))))))))))))))))))))))))))))
 exact Am s1_33 rfl fun _ => rfl
 exact Am s14_33 rfl fun _ => rfl
 exact Ad fun aq wq _ hO hR hT => does_indexSl (T := LK) (xs := l) (i := (a : Int)) (X := zA) sli_54 rfl (SlT.at (hT 75 rfl rfl) (X1_33.ext' hR)) (hT 76 rfl rfl) (by omega) hzA (fun v h => ⟨Ext.refl _, h⟩)
 exact Ad fun aq wq _ hO hR hT => does_loadP (cs := [w32 (zA.recipe).a, w32 (zA.recipe).b, w32 (zA.recipe).c, w32 (zA.recipe).d, w32 (zA.out).a, w32 (zA.out).b, w32 (zA.out).c, w32 (zA.out).d]) (hT 77 rfl rfl) row_26 rfl eR
 exact Am s9_33 rfl fun _ => rfl
 exact Am s14_33 rfl fun _ => rfl
 exact Ad fun aq wq _ hO hR hT => does_indexSl (T := SG) (xs := S) (i := (a : Int)) (X := (⟨root (publics seed (pw 2)), (a : Int), xA, yA, oA1, oA2⟩ : Sg)) sli_55 rfl (SlT.at (hT 79 rfl rfl) (hsxo_33.ext' hR)) (hT 80 rfl rfl) (by omega) hgA (fun v h => ⟨Ext.refl _, h⟩)
 exact Ad fun aq wq _ hO hR hT => does_loadP (cs := [w32 (root (publics seed (pw 2))).a, w32 (root (publics seed (pw 2))).b, w32 (root (publics seed (pw 2))).c, w32 (root (publics seed (pw 2))).d, i64 (a : Int), xA, yA]) (hT 81 rfl rfl) row_32 rfl eR
 exact Am s1_33 rfl fun _ => rfl
 exact Am s15_33 rfl fun _ => rfl
 exact Ad fun aq wq _ hO hR hT => does_indexSl (T := LK) (xs := l) (i := (c : Int)) (X := zC) sli_54 rfl (SlT.at (hT 83 rfl rfl) (X1_33.ext' hR)) (hT 84 rfl rfl) (by omega) hzC (fun v h => ⟨Ext.refl _, h⟩)
 exact Ad fun aq wq _ hO hR hT => does_loadP (cs := [w32 (zC.recipe).a, w32 (zC.recipe).b, w32 (zC.recipe).c, w32 (zC.recipe).d, w32 (zC.out).a, w32 (zC.out).b, w32 (zC.out).c, w32 (zC.out).d]) (hT 85 rfl rfl) row_26 rfl eR
 exact Am s9_33 rfl fun _ => rfl
 exact Am s15_33 rfl fun _ => rfl
 exact Ad fun aq wq _ hO hR hT => does_indexSl (T := SG) (xs := S) (i := (c : Int)) (X := (⟨root (publics seed (pw 2)), (c : Int), xC, yC, oC1, oC2⟩ : Sg)) sli_55 rfl (SlT.at (hT 87 rfl rfl) (hsxo_33.ext' hR)) (hT 88 rfl rfl) (by omega) hgC (fun v h => ⟨Ext.refl _, h⟩)
 exact Ad fun aq wq _ hO hR hT => does_loadP (cs := [w32 (root (publics seed (pw 2))).a, w32 (root (publics seed (pw 2))).b, w32 (root (publics seed (pw 2))).c, w32 (root (publics seed (pw 2))).d, i64 (c : Int), xC, yC]) (hT 89 rfl rfl) row_32 rfl eR
 exact Ad fun aq wq _ hO hR hT => does_ret (vs := #[Value.agg #[w32 (zA.recipe).a, w32 (zA.recipe).b, w32 (zA.recipe).c, w32 (zA.recipe).d, w32 (zA.out).a, w32 (zA.out).b, w32 (zA.out).c, w32 (zA.out).d], Value.agg #[w32 (root (publics seed (pw 2))).a, w32 (root (publics seed (pw 2))).b, w32 (root (publics seed (pw 2))).c, w32 (root (publics seed (pw 2))).d, i64 (a : Int), xA, yA], Value.agg #[w32 (zC.recipe).a, w32 (zC.recipe).b, w32 (zC.recipe).c, w32 (zC.recipe).d, w32 (zC.out).a, w32 (zC.out).b, w32 (zC.out).c, w32 (zC.out).d], Value.agg #[w32 (root (publics seed (pw 2))).a, w32 (root (publics seed (pw 2))).b, w32 (root (publics seed (pw 2))).c, w32 (root (publics seed (pw 2))).d, i64 (c : Int), xC, yC]]) call_14 (args4 (hT 78 rfl rfl) (hT 82 rfl rfl) (hT 86 rfl rfl) (hT 90 rfl rfl)) rfl ((twice_ zA.recipe zA.out (root (publics seed (pw 2))) ((a : Int)) (signed (seedAt seed a) (linkOf zA.recipe zA.out)) (way (publics seed (pw 2)) a) zC.recipe zC.out (root (publics seed (pw 2))) ((c : Int)) (signed (seedAt seed c) (linkOf zC.recipe zC.out)) (way (publics seed (pw 2)) c) (xA) (yA) (xC) (yC) wq (hL.ext (E33.trans hR)) ((hsxA_33.ext' hR).wide (Nat.zero_le _) (.inl rfl)) ((hsyA_33.ext' hR).wide (Nat.zero_le _) (.inl rfl)) ((hsxC_33.ext' hR).wide (Nat.zero_le _) (.inl rfl)) ((hsyC_33.ext' hR).wide (Nat.zero_le _) (.inl rfl)) (by rw [signed_length]; decide) (by rw [way_pw 2 _ _ (publics_length _ _) (by rw [publics_length]; exact ha)]; decide) (by rw [signed_length]; decide) (by rw [way_pw 2 _ _ (publics_length _ _) (by rw [publics_length]; exact hc)]; decide)).mono fun v w2 h => ⟨h.2, h.1⟩)
 exact Am s1_33 rfl fun _ => rfl
 exact Am s14_33 rfl fun _ => rfl
 exact Ad fun aq wq _ hO hR hT => does_indexSl (T := LK) (xs := l) (i := (a : Int)) (X := zA) sli_54 rfl (SlT.at (hT 92 rfl rfl) (X1_33.ext' hR)) (hT 93 rfl rfl) (by omega) hzA (fun v h => ⟨Ext.refl _, h⟩)
 exact Ad fun aq wq _ hO hR hT => does_fieldP (mid := [w32 (zA.recipe).a, w32 (zA.recipe).b, w32 (zA.recipe).c, w32 (zA.recipe).d]) fld_26_0 (hT 94 rfl rfl) rfl (nB rfl) (fun v h => ⟨Ext.refl _, h⟩)
 exact Ad fun aq wq _ hO hR hT => does_loadP (cs := [w32 (zA.recipe).a, w32 (zA.recipe).b, w32 (zA.recipe).c, w32 (zA.recipe).d]) (hT 95 rfl rfl) row_24 rfl eR
 exact Am s1_33 rfl fun _ => rfl
 exact Am s15_33 rfl fun _ => rfl
 exact Ad fun aq wq _ hO hR hT => does_indexSl (T := LK) (xs := l) (i := (c : Int)) (X := zC) sli_54 rfl (SlT.at (hT 97 rfl rfl) (X1_33.ext' hR)) (hT 98 rfl rfl) (by omega) hzC (fun v h => ⟨Ext.refl _, h⟩)
 exact Ad fun aq wq _ hO hR hT => does_fieldP (mid := [w32 (zC.recipe).a, w32 (zC.recipe).b, w32 (zC.recipe).c, w32 (zC.recipe).d]) fld_26_0 (hT 99 rfl rfl) rfl (nB rfl) (fun v h => ⟨Ext.refl _, h⟩)
 exact Ad fun aq wq _ hO hR hT => does_loadP (cs := [w32 (zC.recipe).a, w32 (zC.recipe).b, w32 (zC.recipe).c, w32 (zC.recipe).d]) (hT 100 rfl rfl) row_24 rfl eR
 exact Ad fun aq wq _ hO hR hT => does_eqT (a := zA.recipe) (b := zC.recipe) eq_24 (hT 96 rfl rfl) (hT 101 rfl rfl) eR
 exact Ad fun aq wq _ hO hR hT => does_move (V := Value.bool (decide (zA.recipe = zC.recipe))) (hT 102 rfl rfl) eR
 refine Ask.guarded (B := decide (zA.recipe = zC.recipe)) (want := true) (t := 103) rfl rfl rfl rfl (by decide) (fun aq wq hO hR hT => hT 103 rfl rfl) (fun hG aq wq hNq hO hR hT => ?_) (fun hno _ => fun hc => absurd hc hno)
 replace hR := (Ext.drew _).trans hR
 exact does_move (V := x1) (oT hO s1_33 rfl) ⟨Ext.refl _, fun _ => rfl⟩
 refine Ask.guarded (B := decide (zA.recipe = zC.recipe)) (want := true) (t := 103) rfl rfl rfl rfl (by decide) (fun aq wq hO hR hT => hT 103 rfl rfl) (fun hG aq wq hNq hO hR hT => ?_) (fun hno _ => fun hc => absurd hc hno)
 replace hR := (Ext.drew _).trans hR
 exact does_move (V := i64 (a : Int)) (oT hO s14_33 rfl) ⟨Ext.refl _, fun _ => rfl⟩
 refine Ask.guarded (B := decide (zA.recipe = zC.recipe)) (want := true) (t := 103) rfl rfl rfl rfl (by decide) (fun aq wq hO hR hT => hT 103 rfl rfl) (fun hG aq wq hNq hO hR hT => ?_) (fun hno _ => fun hc => absurd hc hno)
 replace hR := (Ext.drew _).trans hR
 exact does_indexSl (T := LK) (xs := l) (i := (a : Int)) (X := zA) sli_54 rfl (SlT.at (hT 104 rfl rfl hG) (X1_33.ext' hR)) (hT 105 rfl rfl hG) (by omega) hzA (fun v h => ⟨Ext.refl _, fun _ => h⟩)
 refine Ask.guarded (B := decide (zA.recipe = zC.recipe)) (want := true) (t := 103) rfl rfl rfl rfl (by decide) (fun aq wq hO hR hT => hT 103 rfl rfl) (fun hG aq wq hNq hO hR hT => ?_) (fun hno _ => fun hc => absurd hc hno)
 replace hR := (Ext.drew _).trans hR
 exact does_fieldP (mid := [w32 (zA.out).a, w32 (zA.out).b, w32 (zA.out).c, w32 (zA.out).d]) fld_26_1 (hT 106 rfl rfl hG) rfl (nB rfl) (fun v h => ⟨Ext.refl _, fun _ => h⟩)
 refine Ask.guarded (B := decide (zA.recipe = zC.recipe)) (want := true) (t := 103) rfl rfl rfl rfl (by decide) (fun aq wq hO hR hT => hT 103 rfl rfl) (fun hG aq wq hNq hO hR hT => ?_) (fun hno _ => fun hc => absurd hc hno)
 replace hR := (Ext.drew _).trans hR
 exact does_loadP (cs := [w32 (zA.out).a, w32 (zA.out).b, w32 (zA.out).c, w32 (zA.out).d]) (hT 107 rfl rfl hG) row_24 rfl ⟨Ext.refl _, fun _ => rfl⟩
 refine Ask.guarded (B := decide (zA.recipe = zC.recipe)) (want := true) (t := 103) rfl rfl rfl rfl (by decide) (fun aq wq hO hR hT => hT 103 rfl rfl) (fun hG aq wq hNq hO hR hT => ?_) (fun hno _ => fun hc => absurd hc hno)
 replace hR := (Ext.drew _).trans hR
 exact does_move (V := x1) (oT hO s1_33 rfl) ⟨Ext.refl _, fun _ => rfl⟩
 refine Ask.guarded (B := decide (zA.recipe = zC.recipe)) (want := true) (t := 103) rfl rfl rfl rfl (by decide) (fun aq wq hO hR hT => hT 103 rfl rfl) (fun hG aq wq hNq hO hR hT => ?_) (fun hno _ => fun hc => absurd hc hno)
 replace hR := (Ext.drew _).trans hR
 exact does_move (V := i64 (c : Int)) (oT hO s15_33 rfl) ⟨Ext.refl _, fun _ => rfl⟩
 refine Ask.guarded (B := decide (zA.recipe = zC.recipe)) (want := true) (t := 103) rfl rfl rfl rfl (by decide) (fun aq wq hO hR hT => hT 103 rfl rfl) (fun hG aq wq hNq hO hR hT => ?_) (fun hno _ => fun hc => absurd hc hno)
 replace hR := (Ext.drew _).trans hR
 exact does_indexSl (T := LK) (xs := l) (i := (c : Int)) (X := zC) sli_54 rfl (SlT.at (hT 109 rfl rfl hG) (X1_33.ext' hR)) (hT 110 rfl rfl hG) (by omega) hzC (fun v h => ⟨Ext.refl _, fun _ => h⟩)
 refine Ask.guarded (B := decide (zA.recipe = zC.recipe)) (want := true) (t := 103) rfl rfl rfl rfl (by decide) (fun aq wq hO hR hT => hT 103 rfl rfl) (fun hG aq wq hNq hO hR hT => ?_) (fun hno _ => fun hc => absurd hc hno)
 replace hR := (Ext.drew _).trans hR
 exact does_fieldP (mid := [w32 (zC.out).a, w32 (zC.out).b, w32 (zC.out).c, w32 (zC.out).d]) fld_26_1 (hT 111 rfl rfl hG) rfl (nB rfl) (fun v h => ⟨Ext.refl _, fun _ => h⟩)
 refine Ask.guarded (B := decide (zA.recipe = zC.recipe)) (want := true) (t := 103) rfl rfl rfl rfl (by decide) (fun aq wq hO hR hT => hT 103 rfl rfl) (fun hG aq wq hNq hO hR hT => ?_) (fun hno _ => fun hc => absurd hc hno)
 replace hR := (Ext.drew _).trans hR
 exact does_loadP (cs := [w32 (zC.out).a, w32 (zC.out).b, w32 (zC.out).c, w32 (zC.out).d]) (hT 112 rfl rfl hG) row_24 rfl ⟨Ext.refl _, fun _ => rfl⟩
 refine Ask.guarded (B := decide (zA.recipe = zC.recipe)) (want := true) (t := 103) rfl rfl rfl rfl (by decide) (fun aq wq hO hR hT => hT 103 rfl rfl) (fun hG aq wq hNq hO hR hT => ?_) (fun hno _ => fun hc => absurd hc hno)
 replace hR := (Ext.drew _).trans hR
 exact does_neT (a := zA.out) (b := zC.out) eq_24 (hT 108 rfl rfl hG) (hT 113 rfl rfl hG) ⟨Ext.refl _, fun _ => rfl⟩
 exact Ad fun aq wq _ hO hR hT => does_and (B := decide (zA.recipe = zC.recipe)) (X := !decide (zA.out = zC.out)) (hT 103 rfl rfl) (fun hB => (hT 114 rfl rfl hB)) rfl eR
 exact Ad fun aq wq _ hO hR hT => does_neB Tryd.underlying4 (hT 91 rfl rfl) (hT 115 rfl rfl) eR
 intro a34 wd34 N34 D34 hO hR hA hU
 obtain ⟨_, _, _, _, _, _, _, _, _, _, _, _, _, _, _, _, _, _, _, _, _, _, _, _, _, _, _, _, _, _, _, _, _, _, _, _, _, _, _, _, _, t116, _⟩ := hA
 have E34 := E33.trans hR
 have s1_34 := oT hO s1_33 rfl
 have s9_34 := oT hO s9_33 rfl
 have s14_34 := oT hO s14_33 rfl
 have s15_34 := oT hO s15_33 rfl
 have B2_34 := B2_33.ext' hR
 have B5_34 := B5_33.ext' hR
 have B7_34 := B7_33.ext' hR
 have X1_34 := X1_33.ext' hR
 have hsS_34 := hsS_33.ext' hR
 have hsxo_34 := hsxo_33.ext' hR
 have hsxA_34 := hsxA_33.ext' hR
 have hsyA_34 := hsyA_33.ext' hR
 have hsxC_34 := hsxC_33.ext' hR
 have hsyC_34 := hsyC_33.ext' hR
 have s116_34 : get a34 116 = Value.bool (!((twiceB (root (publics seed (pw 2))) zA.recipe zA.out ((a : Int)) (signed (seedAt seed a) (linkOf zA.recipe zA.out)) (way (publics seed (pw 2)) a) (root (publics seed (pw 2))) zC.recipe zC.out ((c : Int)) (signed (seedAt seed c) (linkOf zC.recipe zC.out)) (way (publics seed (pw 2)) c)) == ((decide (zA.recipe = zC.recipe)) && (!decide (zA.out = zC.out))))) := t116
 clear E33 N33 D33 s1_33 s9_33 s14_33 s15_33 s72_33 B2_33 B5_33 B7_33 X1_33 hsS_33 hsxo_33 hsxA_33 hsyA_33 hsxC_33 hsyC_33
 refine tail_nil ?_
 refine wp_if (B := !((twiceB (root (publics seed (pw 2))) zA.recipe zA.out ((a : Int)) (signed (seedAt seed a) (linkOf zA.recipe zA.out)) (way (publics seed (pw 2)) a) (root (publics seed (pw 2))) zC.recipe zC.out ((c : Int)) (signed (seedAt seed c) (linkOf zC.recipe zC.out)) (way (publics seed (pw 2)) c)) == ((decide (zA.recipe = zC.recipe)) && (!decide (zA.out = zC.out))))) s116_34 (fun hc5 => ?_) (fun hc5 => ?_)
 rw [twiceB_said (keyCheck_sign (by decide) ha) (keyCheck_sign (by decide) hc) rfl] at hc5; simp at hc5
 refine wp_skip ?_
 refine Rl [] [(73, Pr.ex (i64 (c : Int))), (74, Pr.ex (i64 ((c + 1 : Nat) : Int)))] 2 N34 D34 ?_ ?_
 refine Ac ?_ (Ac ?_ (Az _))
 exact Am s15_34 rfl fun _ => rfl
 exact Ap fun aq wq _ hO hR hT => does_add (a := (c : Int)) (b := ((1 : Nat) : Int)) (r := ((c + 1 : Nat) : Int)) (hT 73 rfl rfl) rfl (by omega) (by omega) (by omega) eR
 intro a35 wd35 N35 D35 hO hR hA hU
 obtain ⟨_, t74, _⟩ := hA
 have E35 := E34.trans hR
 have s1_35 := oT hO s1_34 rfl
 have s9_35 := oT hO s9_34 rfl
 have s14_35 := oT hO s14_34 rfl
 have s15_35 := oT hO s15_34 rfl
 have B2_35 := B2_34.ext' hR
 have B5_35 := B5_34.ext' hR
 have B7_35 := B7_34.ext' hR
 have X1_35 := X1_34.ext' hR
 have hsS_35 := hsS_34.ext' hR
 have hsxo_35 := hsxo_34.ext' hR
 have hsxA_35 := hsxA_34.ext' hR
 have hsyA_35 := hsyA_34.ext' hR
 have hsxC_35 := hsxC_34.ext' hR
 have hsyC_35 := hsyC_34.ext' hR
 have s74_35 : get a35 74 = i64 ((c + 1 : Nat) : Int) := t74
 clear E34 N34 D34 s1_34 s9_34 s14_34 s15_34 s116_34 B2_34 B5_34 B7_34 X1_34 hsS_34 hsxo_34 hsxA_34 hsyA_34 hsxC_34 hsyC_34
 refine tail_put rfl rfl N35 D35 (by decide) (does_assign (V := i64 ((c + 1 : Nat) : Int)) s74_35 (fun a36 N36 D36 hv hO => ?_))
 have s15_36 := hv
 have s1_36 := oT hO s1_35 rfl
 have s9_36 := oT hO s9_35 rfl
 have s14_36 := oT hO s14_35 rfl
 clear hO hv N35 D35 s1_35 s9_35 s14_35 s74_35 s15_35
 refine tail_nil ?_
 exact ⟨_, by omega, c + 1, rfl, N36, D36, s1_36, s9_36, s14_36, s15_36, E35, B2_35, B5_35, B7_35, X1_35, hsS_35, hsxo_35⟩
 have hc4 := of_decide_eq_false hc4
 refine wp_exit ?_
 refine Rl [] [(67, Pr.ex (i64 (a : Int))), (68, Pr.ex (i64 ((a + 1 : Nat) : Int)))] 2 N33 D33 ?_ ?_
 refine Ac ?_ (Ac ?_ (Az _))
 exact Am s14_33 rfl fun _ => rfl
 exact Ap fun aq wq _ hO hR hT => does_add (a := (a : Int)) (b := ((1 : Nat) : Int)) (r := ((a + 1 : Nat) : Int)) (hT 67 rfl rfl) rfl (by omega) (by omega) (by omega) eR
 intro a37 wd37 N37 D37 hO hR hA hU
 obtain ⟨_, t68, _⟩ := hA
 have E37 := E33.trans hR
 have s1_37 := oT hO s1_33 rfl
 have s9_37 := oT hO s9_33 rfl
 have s14_37 := oT hO s14_33 rfl
 have B2_37 := B2_33.ext' hR
 have B5_37 := B5_33.ext' hR
 have B7_37 := B7_33.ext' hR
 have X1_37 := X1_33.ext' hR
 have hsS_37 := hsS_33.ext' hR
 have hsxo_37 := hsxo_33.ext' hR
 have s68_37 : get a37 68 = i64 ((a + 1 : Nat) : Int) := t68
 clear E33 N33 D33 s1_33 s9_33 s14_33 s15_33 s72_33 B2_33 B5_33 B7_33 X1_33 hsS_33 hsxo_33
 refine tail_put rfl rfl N37 D37 (by decide) (does_assign (V := i64 ((a + 1 : Nat) : Int)) s68_37 (fun a38 N38 D38 hv hO => ?_))
 have s14_38 := hv
 have s1_38 := oT hO s1_37 rfl
 have s9_38 := oT hO s9_37 rfl
 clear hO hv N37 D37 s1_37 s9_37 s68_37 s14_37
 refine tail_nil ?_
 exact ⟨_, by omega, a + 1, rfl, N38, D38, s1_38, s9_38, s14_38, E37, B2_37, B5_37, B7_37, X1_37, hsS_37, hsxo_37⟩
 have hc3 := of_decide_eq_false hc3
 refine wp_exit ?_
 refine wp_seq ?_
 refine Rl [] [(4, Pr.ex (Value.bool (true)))] 1 N30 D30 ?_ ?_
 refine Ac ?_ (Az _)
 exact Ap fun aq wq _ hO hR hT => does_assign (V := Value.bool (true)) rfl eR
 intro a39 wd39 N39 D39 hO hR hA hU
 obtain ⟨t4, _⟩ := hA
 have E39 := E30.trans hR
 have B2_39 := B2_30.ext' hR
 have B5_39 := B5_30.ext' hR
 have B7_39 := B7_30.ext' hR
 have X1_39 := X1_30.ext' hR
 have hsS_39 := hsS_30.ext' hR
 have hsxo_39 := hsxo_30.ext' hR
 have s4_39 : get a39 4 = Value.bool (true) := t4
 clear E30 N30 D30 s1_30 s9_30 s14_30 s66_30 B2_30 B5_30 B7_30 X1_30 hsS_30 hsxo_30
 refine tail_nil ?_
 refine wp_ret ?_
 refine res_one (V := Value.bool (true)) rfl D39 s4_39 ?_
 exact ⟨rfl, E39⟩

end Go.Proofs.YtmmghpbncejfiaaDoor
