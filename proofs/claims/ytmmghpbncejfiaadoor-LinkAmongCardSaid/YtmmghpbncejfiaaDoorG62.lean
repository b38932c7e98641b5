/- The walks of functions of the program: printed. -/
import Derived.Test.YtmmghpbncejfiaaDoorK
import Derived.Test.YtmmghpbncejfiaaDoorG3
import Derived.Test.YtmmghpbncejfiaaDoorG60
import Derived.Test.YtmmghpbncejfiaaDoorG61
import Derived.Test.YtmmghpbncejfiaaDoorF0
set_option maxRecDepth 100000
namespace Go.Proofs.YtmmghpbncejfiaaDoor
open Go Go.RowKit Sk Sd
theorem reach1 (m : Dg) (s : List Dg) (i bs bt : Nat) (xs xt : Value) (w0 : World) (hL : Laid w0) (hbs : Has w0 bs 28 [xs]) (hbt : Has w0 bt 103 [xt]) (hxs : SlT DG 0 0 s xs w0) (hxt : SlT NI 0 0 (steps m) xt w0) (hs : s.length = 35) (hi : i < 35) :
    Gives Tryd.prog 65 #[i64 (i : Int), Value.pointer (some ⟨bs, 0, none⟩), Value.pointer (some ⟨bt, 0, none⟩)] w0 (Pr.ex (Dg.val (chain m s i))) := by
 refine enter (N := 15) Tryd.func65 rfl rfl ?_
 intro a0 N0 D0 hA
 have s0_0 : get a0 0 = i64 (i : Int) := hA 0 _ rfl
 have s1_0 : get a0 1 = Value.pointer (some ⟨bs, 0, none⟩) := hA 1 _ rfl
 have s2_0 : get a0 2 = Value.pointer (some ⟨bt, 0, none⟩) := hA 2 _ rfl
 clear hA
 have E0 : Ext w0 w0 := Ext.refl w0
 have hle := steps_le m i
 have hsxs_0 := hxs.close
 have hsxt_0 := hxt.close
 refine wp_seq ?_
 refine Rl [4] [(4, Pr.box' w0.heap.size 24 [w32 (Dg.zero).a, w32 (Dg.zero).b, w32 (Dg.zero).c, w32 (Dg.zero).d])] 1 N0 D0 ?_ ?_
 refine Ac ?_ (Az _)
 refine Ask.fresh rfl rfl ?_
 intro aq wq hNq hO hR hT
 exact does_alloc zero_24 (fun b w2 he hlo hb => ⟨he, ⟨b, rfl, Nat.le_trans hR.size' hlo, hb⟩, ⟨b, rfl, hlo, hb.lt⟩⟩)
 intro a1 wd1 N1 D1 hO hR hA hU
 obtain ⟨t4, _⟩ := hA
 have E1 := E0.trans hR
 have s0_1 := oT hO s0_0 rfl
 have s1_1 := oT hO s1_0 rfl
 have s2_1 := oT hO s2_0 rfl
 have hbbs_1 := hbs.ext' hR
 have hbbt_1 := hbt.ext' hR
 have hsxs_1 := hsxs_0.ext' hR
 have hsxt_1 := hsxt_0.ext' hR
 obtain ⟨b4, s4_1, lo_b4, B4_1⟩ := t4
 have ne_bs_b4 := Hl hbs lo_b4
 have ne_bt_b4 := Hl hbt lo_b4
 have nb_xs_b4 := SlT.old hsxs_0 lo_b4
 have nb_xt_b4 := SlT.old hsxt_0 lo_b4
 have fr_b4 : w0.heap.size ≤ b4 := Nat.le_trans E0.size' lo_b4
 clear E0 N0 D0 s0_0 s1_0 s2_0 hbs hbt hsxs_0 hsxt_0
 refine tail_nil ?_
 refine wp_seq ?_
 refine Ra [] [(5, Pr.ex (xs)), (6, Pr.ex (i64 (i : Int))), (7, Pr.pt' 0 (w0.heap.size + 1) [w32 ((s.getD i Dg.zero)).a, w32 ((s.getD i Dg.zero)).b, w32 ((s.getD i Dg.zero)).c, w32 ((s.getD i Dg.zero)).d]), (8, Pr.ex (Dg.val ((s.getD i Dg.zero)))), (9, Pr.ex (xt)), (10, Pr.ex (i64 (i : Int))), (11, Pr.pt' 0 (w0.heap.size + 1) [i64 (((steps m).getD i 0 : Nat) : Int)]), (12, Pr.ex (i64 (((steps m).getD i 0 : Nat) : Int))), (13, Pr.ex (i64 ((15 - ((steps m).getD i 0) : Nat) : Int))), (14, Pr.ex (Dg.val (walk ((s.getD i Dg.zero)) (15 - ((steps m).getD i 0)))))] 10 mixed N1 D1 ?_ ?_
 refine Ac ?_ (Ac ?_ (Ac ?_ (Ac ?_ (Ac ?_ (Ac ?_ (Ac ?_ (Ac ?_ (Ac ?_ (Ac ?_ (Az _))))))))))
 exact Ad fun aq wq _ hO hR hT => does_loadD1 (o := 0) (V := xs) (oT hO s1_1 rfl) (hbbs_1.ext' hR) rfl one_28 eR
 exact Am s0_1 rfl fun _ => rfl
 exact Ad fun aq wq _ hO hR hT => does_indexSl (T := DG) (xs := s) (i := (i : Int)) (X := (s.getD i Dg.zero)) sli_28 rfl (SlT.at (hT 5 rfl rfl) (hsxs_1.ext' hR)) (hT 6 rfl rfl) (by omega) (getD_get (by omega)) (fun v h => ⟨Ext.refl _, h⟩)
 exact Ad fun aq wq _ hO hR hT => does_loadP (cs := [w32 ((s.getD i Dg.zero)).a, w32 ((s.getD i Dg.zero)).b, w32 ((s.getD i Dg.zero)).c, w32 ((s.getD i Dg.zero)).d]) (hT 7 rfl rfl) row_24 rfl eR
 exact Ad fun aq wq _ hO hR hT => does_loadD1 (o := 0) (V := xt) (oT hO s2_1 rfl) (hbbt_1.ext' hR) rfl one_103 eR
 exact Am s0_1 rfl fun _ => rfl
 exact Ad fun aq wq _ hO hR hT => does_indexSl (T := NI) (xs := steps m) (i := (i : Int)) (X := (steps m).getD i 0) sli_103 rfl (SlT.at (hT 9 rfl rfl) (hsxt_1.ext' hR)) (hT 10 rfl rfl) (by omega) (steps_get m hi) (fun v h => ⟨Ext.refl _, h⟩)
 exact Ad fun aq wq _ hO hR hT => does_loadP1 (V := i64 (((steps m).getD i 0 : Nat) : Int)) (hT 11 rfl rfl) one_3 eR
 exact Ad fun aq wq _ hO hR hT => does_sub (a := ((15 : Nat) : Int)) (b := (((steps m).getD i 0 : Nat) : Int)) (r := ((15 - ((steps m).getD i 0) : Nat) : Int)) rfl (hT 12 rfl rfl) (by omega) (by omega) (by omega) eR
 exact Ad fun aq wq _ hO hR hT => does_ret (vs := #[Dg.val ((s.getD i Dg.zero)), i64 ((15 - ((steps m).getD i 0) : Nat) : Int)]) call_66 (args2 (hT 8 rfl rfl) (hT 13 rfl rfl)) rfl ((along_ ((s.getD i Dg.zero)) (15 - ((steps m).getD i 0)) wq (hL.ext (E1.trans hR)) (by omega)).mono fun v w2 h => ⟨h.2, h.1⟩)
 intro a2 wd2 N2 D2 hO hR hA hU
 obtain ⟨_, _, _, _, _, _, _, _, _, t14, _⟩ := hA
 have E2 := E1.trans hR
 have s4_2 := oT hO s4_1 rfl
 have hbbs_2 := hbbs_1.ext' hR
 have hbbt_2 := hbbt_1.ext' hR
 have B4_2 := B4_1.ext' hR
 have hsxs_2 := hsxs_1.ext' hR
 have hsxt_2 := hsxt_1.ext' hR
 have s14_2 : get a2 14 = Dg.val (walk ((s.getD i Dg.zero)) (15 - ((steps m).getD i 0))) := t14
 clear E1 N1 D1 s0_1 s1_1 s2_1 s4_1 hbbs_1 hbbt_1 B4_1 hsxs_1 hsxt_1
 refine tail_none rfl rfl (does_storeD (o := 0) (n := 4) (cs' := [w32 (walk ((s.getD i Dg.zero)) (15 - ((steps m).getD i 0))).a, w32 (walk ((s.getD i Dg.zero)) (15 - ((steps m).getD i 0))).b, w32 (walk ((s.getD i Dg.zero)) (15 - ((steps m).getD i 0))).c, w32 (walk ((s.getD i Dg.zero)) (15 - ((steps m).getD i 0))).d]) (V := Dg.val (walk ((s.getD i Dg.zero)) (15 - ((steps m).getD i 0)))) s4_2 s14_2 B4_2 (nB rfl) rfl siz_24 rfl rfl (fun wd3 hX hz B4_3 => ?_))
 have E3 := E2.since hX (fun k e => e ▸ fr_b4)
 have hbbs_3 := hbbs_2.ext hX ne_bs_b4
 have hbbt_3 := hbbt_2.ext hX ne_bt_b4
 have hsxs_3 := SlT.over hsxs_2 hX nb_xs_b4
 have hsxt_3 := SlT.over hsxt_2 hX nb_xt_b4
 clear hX hz E2 hbbs_2 hbbt_2 B4_2 hsxs_2 hsxt_2
 refine tail_nil ?_
 refine wp_ret ?_
 refine res_one (V := Dg.val (walk ((s.getD i Dg.zero)) (15 - ((steps m).getD i 0)))) rfl D2 (ResIs.cell s4_2 B4_3 row_24 rfl rfl) ?_
 exact ⟨rfl, E3⟩

theorem ends1 (m : Dg) (s : List Dg) (bs bt : Nat) (xs xt : Value) (w0 : World) (hL : Laid w0) (hbs : Has w0 bs 28 [xs]) (hbt : Has w0 bt 103 [xt]) (hxs : SlT DG 0 0 s xs w0) (hxt : SlT NI 0 0 (steps m) xt w0) (hs : s.length = 35) :
    Gives Tryd.prog 64 #[Value.func (.func 65) #[] #[Value.pointer (some ⟨bs, 0, none⟩), Value.pointer (some ⟨bt, 0, none⟩)]] w0 (Pr.ex (Dg.val (reach m s))) := by
 refine enter (N := 16) Tryd.func64 rfl rfl ?_
 intro a0 N0 D0 hA
 have s0_0 : get a0 0 = Value.func (.func 65) #[] #[Value.pointer (some ⟨bs, 0, none⟩), Value.pointer (some ⟨bt, 0, none⟩)] := hA 0 _ rfl
 clear hA
 have E0 : Ext w0 w0 := Ext.refl w0
 have hsxs_0 := hxs.close
 have hsxt_0 := hxt.close
 refine wp_seq ?_
 refine Rl [2] [(2, Pr.box' w0.heap.size 24 [w32 (Dg.zero).a, w32 (Dg.zero).b, w32 (Dg.zero).c, w32 (Dg.zero).d])] 1 N0 D0 ?_ ?_
 refine Ac ?_ (Az _)
 refine Ask.fresh rfl rfl ?_
 intro aq wq hNq hO hR hT
 exact does_alloc zero_24 (fun b w2 he hlo hb => ⟨he, ⟨b, rfl, Nat.le_trans hR.size' hlo, hb⟩, ⟨b, rfl, hlo, hb.lt⟩⟩)
 intro a1 wd1 N1 D1 hO hR hA hU
 obtain ⟨t2, _⟩ := hA
 have E1 := E0.trans hR
 have s0_1 := oT hO s0_0 rfl
 have hbbs_1 := hbs.ext' hR
 have hbbt_1 := hbt.ext' hR
 have hsxs_1 := hsxs_0.ext' hR
 have hsxt_1 := hsxt_0.ext' hR
 obtain ⟨b2, s2_1, lo_b2, B2_1⟩ := t2
 have ne_bs_b2 := Hl hbs lo_b2
 have ne_bt_b2 := Hl hbt lo_b2
 have nb_xs_b2 := SlT.old hsxs_0 lo_b2
 have nb_xt_b2 := SlT.old hsxt_0 lo_b2
 have fr_b2 : w0.heap.size ≤ b2 := Nat.le_trans E0.size' lo_b2
 clear E0 N0 D0 s0_0 hbs hbt hsxs_0 hsxt_0
 refine tail_nil ?_
 refine wp_seq ?_
 refine Rl [3] [(5, Pr.ex (Dg.val ((⟨(35 : UInt32), 0, 0, 0⟩ : Dg)))), (3, Pr.box' wd1.heap.size 24 [w32 (Dg.zero).a, w32 (Dg.zero).b, w32 (Dg.zero).c, w32 (Dg.zero).d])] 2 N1 D1 ?_ ?_
 refine Ac ?_ (Ac ?_ (Az _))
 exact Ap fun aq wq _ hO hR hT => does_build (vs := #[(0, w32 (35))]) (V := Dg.val ((⟨(35 : UInt32), 0, 0, 0⟩ : Dg))) (parts1 rfl) (by kernel_rfl) eR
 refine Ask.fresh rfl rfl ?_
 intro aq wq hNq hO hR hT
 exact does_alloc zero_24 (fun b w2 he hlo hb => ⟨he, ⟨b, rfl, Nat.le_trans hR.size' hlo, hb⟩, ⟨b, rfl, hlo, hb.lt⟩⟩)
 intro a2 wd2 N2 D2 hO hR hA hU
 obtain ⟨t5, t3, _⟩ := hA
 have E2 := E1.trans hR
 have s0_2 := oT hO s0_1 rfl
 have s2_2 := oT hO s2_1 rfl
 have hbbs_2 := hbbs_1.ext' hR
 have hbbt_2 := hbbt_1.ext' hR
 have B2_2 := B2_1.ext' hR
 have hsxs_2 := hsxs_1.ext' hR
 have hsxt_2 := hsxt_1.ext' hR
 have s5_2 : get a2 5 = Dg.val ((⟨(35 : UInt32), 0, 0, 0⟩ : Dg)) := t5
 obtain ⟨b3, s3_2, lo_b3, B3_2⟩ := t3
 have ne_bs_b3 := Hl hbbs_1 lo_b3
 have ne_bt_b3 := Hl hbbt_1 lo_b3
 have ne_b2_b3 := Hl B2_1 lo_b3
 have nb_xs_b3 := SlT.old hsxs_1 lo_b3
 have nb_xt_b3 := SlT.old hsxt_1 lo_b3
 have fr_b3 : w0.heap.size ≤ b3 := Nat.le_trans E1.size' lo_b3
 clear E1 N1 D1 s0_1 s2_1 hbbs_1 hbbt_1 B2_1 hsxs_1 hsxt_1
 refine tail_none rfl rfl (does_storeD (o := 0) (n := 4) (cs' := [w32 ((⟨(35 : UInt32), 0, 0, 0⟩ : Dg)).a, w32 ((⟨(35 : UInt32), 0, 0, 0⟩ : Dg)).b, w32 ((⟨(35 : UInt32), 0, 0, 0⟩ : Dg)).c, w32 ((⟨(35 : UInt32), 0, 0, 0⟩ : Dg)).d]) (V := Dg.val ((⟨(35 : UInt32), 0, 0, 0⟩ : Dg))) s3_2 s5_2 B3_2 (nB rfl) rfl siz_24 rfl rfl (fun wd3 hX hz B3_3 => ?_))
 have E3 := E2.since hX (fun k e => e ▸ fr_b3)
 have hbbs_3 := hbbs_2.ext hX ne_bs_b3
 have hbbt_3 := hbbt_2.ext hX ne_bt_b3
 have B2_3 := B2_2.ext hX ne_b2_b3
 have hsxs_3 := SlT.over hsxs_2 hX nb_xs_b3
 have hsxt_3 := SlT.over hsxt_2 hX nb_xt_b3
 clear hX hz E2 hbbs_2 hbbt_2 B2_2 B3_2 hsxs_2 hsxt_2
 refine tail_nil ?_
 refine wp_seq ?_
 refine wp_seq ?_
 refine Rl [] [(6, Pr.ex (i64 ((0 : Nat) : Int)))] 1 N2 D2 ?_ ?_
 refine Ac ?_ (Az _)
 exact Ap fun aq wq _ hO hR hT => does_move (V := i64 ((0 : Nat) : Int)) rfl eR
 intro a4 wd4 N4 D4 hO hR hA hU
 obtain ⟨t6, _⟩ := hA
 have E4 := E3.trans hR
 have s0_4 := oT hO s0_2 rfl
 have s2_4 := oT hO s2_2 rfl
 have s3_4 := oT hO s3_2 rfl
 have hbbs_4 := hbbs_3.ext' hR
 have hbbt_4 := hbbt_3.ext' hR
 have B2_4 := B2_3.ext' hR
 have B3_4 := B3_3.ext' hR
 have hsxs_4 := hsxs_3.ext' hR
 have hsxt_4 := hsxt_3.ext' hR
 have s6_4 : get a4 6 = i64 ((0 : Nat) : Int) := t6
 clear E3 N2 D2 s0_2 s2_2 s3_2 s5_2 hbbs_3 hbbt_3 B2_3 B3_3 hsxs_3 hsxt_3
 refine tail_nil ?_
 refine wp_block ?_
 refine loop_g (fun mz az wz => ∃ k : Nat, mz = 35 - k ∧ (az.tmps.size = 16) ∧ (az.defers = []) ∧ (get az 0 = Value.func (.func 65) #[] #[Value.pointer (some ⟨bs, 0, none⟩), Value.pointer (some ⟨bt, 0, none⟩)]) ∧ (get az 2 = Value.pointer (some ⟨b2, 0, none⟩)) ∧ (get az 3 = Value.pointer (some ⟨b3, 0, none⟩)) ∧ (get az 6 = i64 (k : Int)) ∧ (Ext w0 wz) ∧ (Has wz bs 28 [xs]) ∧ (Has wz bt 103 [xt]) ∧ (Has wz b2 24 [w32 (Dg.zero).a, w32 (Dg.zero).b, w32 (Dg.zero).c, w32 (Dg.zero).d]) ∧ (Has wz b3 24 [w32 (tied (⟨(35 : UInt32), (0 : UInt32), (0 : UInt32), (0 : UInt32)⟩ : Dg) ((List.range k).map (chain m s))).a, w32 (tied (⟨(35 : UInt32), (0 : UInt32), (0 : UInt32), (0 : UInt32)⟩ : Dg) ((List.range k).map (chain m s))).b, w32 (tied (⟨(35 : UInt32), (0 : UInt32), (0 : UInt32), (0 : UInt32)⟩ : Dg) ((List.range k).map (chain m s))).c, w32 (tied (⟨(35 : UInt32), (0 : UInt32), (0 : UInt32), (0 : UInt32)⟩ : Dg) ((List.range k).map (chain m s))).d]) ∧ (SlT DG 0 (w0.heap.size + 1) (s) xs wz) ∧ (SlT NI 0 (w0.heap.size + 1) (steps m) xt wz) ∧ (k ≤ 35)) ?_ ?_
 exact ⟨_, 0, rfl, N4, D4, s0_4, s2_4, s3_4, s6_4, E4, hbbs_4, hbbt_4, B2_4, B3_4, hsxs_4, hsxt_4, by decide⟩
 rintro mz a5 wd5 ⟨k, rfl, N5, D5, s0_5, s2_5, s3_5, s6_5, E5, hbbs_5, hbbt_5, B2_5, B3_5, hsxs_5, hsxt_5, hk⟩
 refine wp_seq ?_
 refine Rl [] [(7, Pr.ex (Value.bool (decide ((k : Int) < ((35 : Nat) : Int)))))] 1 N5 D5 ?_ ?_
 refine Ac ?_ (Az _)
 exact Ap fun aq wq _ hO hR hT => does_lss (a := (k : Int)) (b := ((35 : Nat) : Int)) (oT hO s6_5 rfl) rfl eR
 intro a6 wd6 N6 D6 hO hR hA hU
 obtain ⟨t7, _⟩ := hA
 have E6 := E5.trans hR
 have s0_6 := oT hO s0_5 rfl
 have s2_6 := oT hO s2_5 rfl
 have s3_6 := oT hO s3_5 rfl
 have s6_6 := oT hO s6_5 rfl
 have hbbs_6 := hbbs_5.ext' hR
 have hbbt_6 := hbbt_5.ext' hR
 have B2_6 := B2_5.ext' hR
 have B3_6 := B3_5.ext' hR
 have hsxs_6 := hsxs_5.ext' hR
 have hsxt_6 := hsxt_5.ext' hR
 have s7_6 : get a6 7 = Value.bool (decide ((k : Int) < ((35 : Nat) : Int))) := t7
 clear E5 N5 D5 s0_5 s2_5 s3_5 s6_5 hbbs_5 hbbt_5 B2_5 B3_5 hsxs_5 hsxt_5
 refine tail_nil ?_
 refine wp_seq ?_
 refine wp_if (B := decide ((k : Int) < ((35 : Nat) : Int))) s7_6 (fun hc0 => ?_) (fun hc0 => ?_)
 have hc0 := of_decide_eq_true hc0
 refine wp_skip ?_
 refine wp_seq ?_
 refine wp_block ?_
 refine wp_seq ?_
 refine Rl [] [(8, Pr.ex (i64 (k : Int))), (4, Pr.ex (i64 (k : Int)))] 2 N6 D6 ?_ ?_
 refine Ac ?_ (Ac ?_ (Az _))
 exact Am s6_6 rfl fun _ => rfl
 exact Ap fun aq wq _ hO hR hT => does_assign (V := i64 (k : Int)) (hT 8 rfl rfl) eR
 intro a7 wd7 N7 D7 hO hR hA hU
 obtain ⟨_, t4, _⟩ := hA
 have E7 := E6.trans hR
 have s0_7 := oT hO s0_6 rfl
 have s2_7 := oT hO s2_6 rfl
 have s3_7 := oT hO s3_6 rfl
 have s6_7 := oT hO s6_6 rfl
 have hbbs_7 := hbbs_6.ext' hR
 have hbbt_7 := hbbt_6.ext' hR
 have B2_7 := B2_6.ext' hR
 have B3_7 := B3_6.ext' hR
 have hsxs_7 := hsxs_6.ext' hR
 have hsxt_7 := hsxt_6.ext' hR
 have s4_7 : get a7 4 = i64 (k : Int) := t4
 clear E6 N6 D6 s0_6 s2_6 s3_6 s6_6 s7_6 hbbs_6 hbbt_6 B2_6 B3_6 hsxs_6 hsxt_6
 refine tail_nil ?_
 refine Ra [] [(9, Pr.ex (Dg.val (tied (⟨(35 : UInt32), (0 : UInt32), (0 : UInt32), (0 : UInt32)⟩ : Dg) ((List.range k).map (chain m s))))), (10, Pr.ex (Value.func (.func 65) #[] #[Value.pointer (some ⟨bs, 0, none⟩), Value.pointer (some ⟨bt, 0, none⟩)])), (11, Pr.ex (i64 (k : Int))), (12, Pr.ex (Dg.val (chain m s k))), (13, Pr.ex (Dg.val (pair (tied (⟨(35 : UInt32), (0 : UInt32), (0 : UInt32), (0 : UInt32)⟩ : Dg) ((List.range k).map (chain m s))) (chain m s k))))] 5 mixed N7 D7 ?_ ?_
 refine Ac ?_ (Ac ?_ (Ac ?_ (Ac ?_ (Ac ?_ (Az _)))))
 exact Ad fun aq wq _ hO hR hT => does_loadD (o := 0) (n := 4) (mid := [w32 (tied (⟨(35 : UInt32), (0 : UInt32), (0 : UInt32), (0 : UInt32)⟩ : Dg) ((List.range k).map (chain m s))).a, w32 (tied (⟨(35 : UInt32), (0 : UInt32), (0 : UInt32), (0 : UInt32)⟩ : Dg) ((List.range k).map (chain m s))).b, w32 (tied (⟨(35 : UInt32), (0 : UInt32), (0 : UInt32), (0 : UInt32)⟩ : Dg) ((List.range k).map (chain m s))).c, w32 (tied (⟨(35 : UInt32), (0 : UInt32), (0 : UInt32), (0 : UInt32)⟩ : Dg) ((List.range k).map (chain m s))).d]) (oT hO s3_7 rfl) (B3_7.ext' hR) rfl rfl (nB rfl) row_24 rfl eR
 exact Am s0_7 rfl fun _ => rfl
 exact Am s4_7 rfl fun _ => rfl
 exact Ad fun aq wq _ hO hR hT => does_retv (vs := #[i64 (k : Int)]) (cap := #[Value.pointer (some ⟨bs, 0, none⟩), Value.pointer (some ⟨bt, 0, none⟩)]) call_65 (args1 (hT 11 rfl rfl)) (hT 10 rfl rfl) ((reach1 m s k bs bt xs xt wq (hL.ext (E7.trans hR)) (hbbs_7.ext' hR) (hbbt_7.ext' hR) ((hsxs_7.ext' hR).wide (Nat.zero_le _) (.inl rfl)) ((hsxt_7.ext' hR).wide (Nat.zero_le _) (.inl rfl)) hs (by omega)).mono fun v w2 h => ⟨h.2, h.1⟩)
 exact Ad fun aq wq _ hO hR hT => does_ret (vs := #[Dg.val (tied (⟨(35 : UInt32), (0 : UInt32), (0 : UInt32), (0 : UInt32)⟩ : Dg) ((List.range k).map (chain m s))), Dg.val (chain m s k)]) call_21 (args2 (hT 9 rfl rfl) (hT 12 rfl rfl)) rfl ((pair_ (tied (⟨(35 : UInt32), (0 : UInt32), (0 : UInt32), (0 : UInt32)⟩ : Dg) ((List.range k).map (chain m s))) (chain m s k) wq (hL.ext (E7.trans hR))).mono fun v w2 h => ⟨h.2, h.1⟩)
 intro a8 wd8 N8 D8 hO hR hA hU
 obtain ⟨_, _, _, _, t13, _⟩ := hA
 have E8 := E7.trans hR
 have s0_8 := oT hO s0_7 rfl
 have s2_8 := oT hO s2_7 rfl
 have s3_8 := oT hO s3_7 rfl
 have s6_8 := oT hO s6_7 rfl
 have hbbs_8 := hbbs_7.ext' hR
 have hbbt_8 := hbbt_7.ext' hR
 have B2_8 := B2_7.ext' hR
 have B3_8 := B3_7.ext' hR
 have hsxs_8 := hsxs_7.ext' hR
 have hsxt_8 := hsxt_7.ext' hR
 have s13_8 : get a8 13 = Dg.val (pair (tied (⟨(35 : UInt32), (0 : UInt32), (0 : UInt32), (0 : UInt32)⟩ : Dg) ((List.range k).map (chain m s))) (chain m s k)) := t13
 clear E7 N7 D7 s0_7 s2_7 s3_7 s4_7 s6_7 hbbs_7 hbbt_7 B2_7 B3_7 hsxs_7 hsxt_7
 refine tail_none rfl rfl (does_storeD (o := 0) (n := 4) (cs' := [w32 (pair (tied (⟨(35 : UInt32), (0 : UInt32), (0 : UInt32), (0 : UInt32)⟩ : Dg) ((List.range k).map (chain m s))) (chain m s k)).a, w32 (pair (tied (⟨(35 : UInt32), (0 : UInt32), (0 : UInt32), (0 : UInt32)⟩ : Dg) ((List.range k).map (chain m s))) (chain m s k)).b, w32 (pair (tied (⟨(35 : UInt32), (0 : UInt32), (0 : UInt32), (0 : UInt32)⟩ : Dg) ((List.range k).map (chain m s))) (chain m s k)).c, w32 (pair (tied (⟨(35 : UInt32), (0 : UInt32), (0 : UInt32), (0 : UInt32)⟩ : Dg) ((List.range k).map (chain m s))) (chain m s k)).d]) (V := Dg.val (pair (tied (⟨(35 : UInt32), (0 : UInt32), (0 : UInt32), (0 : UInt32)⟩ : Dg) ((List.range k).map (chain m s))) (chain m s k))) s3_8 s13_8 B3_8 (nB rfl) rfl siz_24 rfl rfl (fun wd9 hX hz B3_9 => ?_))
 have E9 := E8.since hX (fun k e => e ▸ fr_b3)
 have hbbs_9 := hbbs_8.ext hX ne_bs_b3
 have hbbt_9 := hbbt_8.ext hX ne_bt_b3
 have B2_9 := B2_8.ext hX ne_b2_b3
 have hsxs_9 := SlT.over hsxs_8 hX nb_xs_b3
 have hsxt_9 := SlT.over hsxt_8 hX nb_xt_b3
 clear hX hz E8 hbbs_8 hbbt_8 B2_8 B3_8 hsxs_8 hsxt_8
 refine tail_nil ?_
 refine Rl [] [(14, Pr.ex (i64 ((k + 1 : Nat) : Int)))] 1 N8 D8 ?_ ?_
 refine Ac ?_ (Az _)
 exact Ap fun aq wq _ hO hR hT => does_add (a := (k : Int)) (b := ((1 : Nat) : Int)) (r := ((k + 1 : Nat) : Int)) (oT hO s6_8 rfl) rfl (by omega) (by omega) (by omega) eR
 intro a10 wd10 N10 D10 hO hR hA hU
 obtain ⟨t14, _⟩ := hA
 have E10 := E9.trans hR
 have s0_10 := oT hO s0_8 rfl
 have s2_10 := oT hO s2_8 rfl
 have s3_10 := oT hO s3_8 rfl
 have s6_10 := oT hO s6_8 rfl
 have hbbs_10 := hbbs_9.ext' hR
 have hbbt_10 := hbbt_9.ext' hR
 have B2_10 := B2_9.ext' hR
 have B3_10 := B3_9.ext' hR
 have hsxs_10 := hsxs_9.ext' hR
 have hsxt_10 := hsxt_9.ext' hR
 have s14_10 : get a10 14 = i64 ((k + 1 : Nat) : Int) := t14
 clear E9 N8 D8 s0_8 s2_8 s3_8 s6_8 s13_8 hbbs_9 hbbt_9 B2_9 B3_9 hsxs_9 hsxt_9
 refine tail_put rfl rfl N10 D10 (by decide) (does_move (V := i64 ((k + 1 : Nat) : Int)) s14_10 (fun a11 N11 D11 hv hO => ?_))
 have s6_11 := hv
 have s0_11 := oT hO s0_10 rfl
 have s2_11 := oT hO s2_10 rfl
 have s3_11 := oT hO s3_10 rfl
 clear hO hv N10 D10 s0_10 s2_10 s3_10 s14_10 s6_10
 refine tail_nil ?_
 exact ⟨_, by omega, k + 1, rfl, N11, D11, s0_11, s2_11, s3_11, s6_11, E10, hbbs_10, hbbt_10, B2_10, (by have h := B3_10; rw [tied_step (f := chain m s) (k := k) rfl] at h; exact h), hsxs_10, hsxt_10, by omega⟩
 have hc0 := of_decide_eq_false hc0
 refine wp_exit ?_
 refine wp_seq ?_
 refine Rl [] [(15, Pr.ex (Dg.val (tied (⟨(35 : UInt32), (0 : UInt32), (0 : UInt32), (0 : UInt32)⟩ : Dg) ((List.range k).map (chain m s)))))] 1 N6 D6 ?_ ?_
 refine Ac ?_ (Az _)
 exact Ap fun aq wq _ hO hR hT => does_loadD (o := 0) (n := 4) (mid := [w32 (tied (⟨(35 : UInt32), (0 : UInt32), (0 : UInt32), (0 : UInt32)⟩ : Dg) ((List.range k).map (chain m s))).a, w32 (tied (⟨(35 : UInt32), (0 : UInt32), (0 : UInt32), (0 : UInt32)⟩ : Dg) ((List.range k).map (chain m s))).b, w32 (tied (⟨(35 : UInt32), (0 : UInt32), (0 : UInt32), (0 : UInt32)⟩ : Dg) ((List.range k).map (chain m s))).c, w32 (tied (⟨(35 : UInt32), (0 : UInt32), (0 : UInt32), (0 : UInt32)⟩ : Dg) ((List.range k).map (chain m s))).d]) (oT hO s3_6 rfl) (B3_6.ext' hR) rfl rfl (nB rfl) row_24 rfl eR
 intro a12 wd12 N12 D12 hO hR hA hU
 obtain ⟨t15, _⟩ := hA
 have E12 := E6.trans hR
 have s2_12 := oT hO s2_6 rfl
 have hbbs_12 := hbbs_6.ext' hR
 have hbbt_12 := hbbt_6.ext' hR
 have B2_12 := B2_6.ext' hR
 have B3_12 := B3_6.ext' hR
 have hsxs_12 := hsxs_6.ext' hR
 have hsxt_12 := hsxt_6.ext' hR
 have s15_12 : get a12 15 = Dg.val (tied (⟨(35 : UInt32), (0 : UInt32), (0 : UInt32), (0 : UInt32)⟩ : Dg) ((List.range k).map (chain m s))) := t15
 clear E6 N6 D6 s0_6 s2_6 s3_6 s6_6 s7_6 hbbs_6 hbbt_6 B2_6 B3_6 hsxs_6 hsxt_6
 refine tail_none rfl rfl (does_storeD (o := 0) (n := 4) (cs' := [w32 (tied (⟨(35 : UInt32), (0 : UInt32), (0 : UInt32), (0 : UInt32)⟩ : Dg) ((List.range k).map (chain m s))).a, w32 (tied (⟨(35 : UInt32), (0 : UInt32), (0 : UInt32), (0 : UInt32)⟩ : Dg) ((List.range k).map (chain m s))).b, w32 (tied (⟨(35 : UInt32), (0 : UInt32), (0 : UInt32), (0 : UInt32)⟩ : Dg) ((List.range k).map (chain m s))).c, w32 (tied (⟨(35 : UInt32), (0 : UInt32), (0 : UInt32), (0 : UInt32)⟩ : Dg) ((List.range k).map (chain m s))).d]) (V := Dg.val (tied (⟨(35 : UInt32), (0 : UInt32), (0 : UInt32), (0 : UInt32)⟩ : Dg) ((List.range k).map (chain m s)))) s2_12 s15_12 B2_12 (nB rfl) rfl siz_24 rfl rfl (fun wd13 hX hz B2_13 => ?_))
 have E13 := E12.since hX (fun k e => e ▸ fr_b2)
 have hbbs_13 := hbbs_12.ext hX ne_bs_b2
 have hbbt_13 := hbbt_12.ext hX ne_bt_b2
 have B3_13 := B3_12.ext hX ne_b2_b3.symm
 have hsxs_13 := SlT.over hsxs_12 hX nb_xs_b2
 have hsxt_13 := SlT.over hsxt_12 hX nb_xt_b2
 clear hX hz E12 hbbs_12 hbbt_12 B2_12 B3_12 hsxs_12 hsxt_12
 refine tail_nil ?_
 refine wp_ret ?_
 refine res_one (V := Dg.val (tied (⟨(35 : UInt32), (0 : UInt32), (0 : UInt32), (0 : UInt32)⟩ : Dg) ((List.range k).map (chain m s)))) rfl D12 (ResIs.cell s2_12 B2_13 row_24 rfl rfl) ?_
 have hk35 : k = 35 := by omega
 subst hk35
 exact ⟨by show Dg.val _ = Dg.val _; rw [reach_eq], E13⟩

theorem reach_ (m : Dg) (s : List Dg) (x1 : Value) (w0 : World) (hL : Laid w0) (hx1 : SlT DG 0 0 s x1 w0) (hn : s.length ≤ 100000) :
    Gives Tryd.prog 40 #[Dg.val (m), x1] w0 (Pr.ex (Value.tuple #[Dg.val (reachO m s).1, Value.bool (reachO m s).2])) := by
 refine enter (N := 15) Tryd.func40 rfl rfl ?_
 intro a0 N0 D0 hA
 have s0_0 : get a0 0 = Dg.val (m) := hA 0 _ rfl
 have s1_0 : get a0 1 = x1 := hA 1 _ rfl
 clear hA
 have E0 : Ext w0 w0 := Ext.refl w0
 have X1_0 := hx1.close
 refine wp_seq ?_
 refine Rl [2, 3, 4] [(2, Pr.box' w0.heap.size 24 [w32 (m).a, w32 (m).b, w32 (m).c, w32 (m).d]), (3, Pr.box' w0.heap.size 28 [x1]), (4, Pr.box' w0.heap.size 24 [w32 (Dg.zero).a, w32 (Dg.zero).b, w32 (Dg.zero).c, w32 (Dg.zero).d]), (5, Pr.ex (Value.bool (false)))] 4 N0 D0 ?_ ?_
 refine Ac ?_ (Ac ?_ (Ac ?_ (Ac ?_ (Az _))))
 refine Ask.fresh rfl rfl ?_
 intro aq wq hNq hO hR hT
 exact does_box (V := Dg.val (m)) (oT hO s0_0 rfl) (fun b w2 he hlo hb => ⟨he, ⟨b, rfl, Nat.le_trans hR.size' hlo, hb⟩, ⟨b, rfl, hlo, hb.lt⟩⟩)
 refine Ask.fresh rfl rfl ?_
 intro aq wq hNq hO hR hT
 exact does_boxS (V := x1) (SlT.cells (X1_0.ext' hR)) (oT hO s1_0 rfl) (fun b w2 he hlo hb => ⟨he, ⟨b, rfl, Nat.le_trans hR.size' hlo, hb⟩, ⟨b, rfl, hlo, hb.lt⟩⟩)
 refine Ask.fresh rfl rfl ?_
 intro aq wq hNq hO hR hT
 exact does_alloc zero_24 (fun b w2 he hlo hb => ⟨he, ⟨b, rfl, Nat.le_trans hR.size' hlo, hb⟩, ⟨b, rfl, hlo, hb.lt⟩⟩)
 exact Ap fun aq wq _ hO hR hT => does_assign (V := Value.bool (false)) rfl eR
 intro a1 wd1 N1 D1 hO hR hA hU
 obtain ⟨t2, t3, t4, _, _⟩ := hA
 have E1 := E0.trans hR
 have X1_1 := X1_0.ext' hR
 obtain ⟨b2, s2_1, lo_b2, B2_1⟩ := t2
 have nb_x1_b2 := SlT.old X1_0 lo_b2
 have fr_b2 : w0.heap.size ≤ b2 := Nat.le_trans E0.size' lo_b2
 obtain ⟨b3, s3_1, lo_b3, B3_1⟩ := t3
 have nb_x1_b3 := SlT.old X1_0 lo_b3
 have fr_b3 : w0.heap.size ≤ b3 := Nat.le_trans E0.size' lo_b3
 obtain ⟨b4, s4_1, lo_b4, B4_1⟩ := t4
 have nb_x1_b4 := SlT.old X1_0 lo_b4
 have fr_b4 : w0.heap.size ≤ b4 := Nat.le_trans E0.size' lo_b4
 obtain ⟨u0, ⟨u1, ⟨u2, _⟩⟩⟩ := hU
 have ne_b2_b3 : b2 ≠ b3 := fun e => u0 3 (by decide) (by rw [s2_1, s3_1, e])
 have ne_b2_b4 : b2 ≠ b4 := fun e => u0 4 (by decide) (by rw [s2_1, s4_1, e])
 have ne_b3_b4 : b3 ≠ b4 := fun e => u1 4 (by decide) (by rw [s3_1, s4_1, e])
 clear E0 N0 D0 s0_0 s1_0 X1_0
 refine tail_nil ?_
 refine wp_seq ?_
 refine wp_seq ?_
 refine Rl [] [(7, Pr.ex (x1)), (8, Pr.ex (i64 (s.length : Int))), (9, Pr.ex (Value.bool (!decide ((s.length : Int) = ((35 : Nat) : Int)))))] 3 N1 D1 ?_ ?_
 refine Ac ?_ (Ac ?_ (Ac ?_ (Az _)))
 exact Ap fun aq wq _ hO hR hT => does_loadD1 (o := 0) (V := x1) (oT hO s3_1 rfl) (B3_1.ext' hR) rfl one_28 eR
 exact Ap fun aq wq _ hO hR hT => does_len (T := DG) (xs := s) sli_28 (SlT.at (hT 7 rfl rfl) (X1_1.ext' hR)) eR
 exact Ap fun aq wq _ hO hR hT => does_neq (a := (s.length : Int)) (b := ((35 : Nat) : Int)) (hT 8 rfl rfl) rfl eR
 intro a2 wd2 N2 D2 hO hR hA hU
 obtain ⟨_, _, t9, _⟩ := hA
 have E2 := E1.trans hR
 have s2_2 := oT hO s2_1 rfl
 have s3_2 := oT hO s3_1 rfl
 have s4_2 := oT hO s4_1 rfl
 have B2_2 := B2_1.ext' hR
 have B3_2 := B3_1.ext' hR
 have B4_2 := B4_1.ext' hR
 have X1_2 := X1_1.ext' hR
 have s9_2 : get a2 9 = Value.bool (!decide ((s.length : Int) = ((35 : Nat) : Int))) := t9
 clear E1 N1 D1 s2_1 s3_1 s4_1 B2_1 B3_1 B4_1 X1_1
 refine tail_nil ?_
 refine wp_if (B := !decide ((s.length : Int) = ((35 : Nat) : Int))) s9_2 (fun hc0 => ?_) (fun hc0 => ?_)
 have hc0 := of_decide_eq_false (bn hc0)
 refine wp_seq ?_
 refine Rl [] [(10, Pr.ex (Dg.val (Dg.zero)))] 1 N2 D2 ?_ ?_
 refine Ac ?_ (Az _)
 exact Ap fun aq wq _ hO hR hT => does_build (vs := #[]) (V := Dg.val (Dg.zero)) parts0 (by kernel_rfl) eR
 intro a3 wd3 N3 D3 hO hR hA hU
 obtain ⟨t10, _⟩ := hA
 have E3 := E2.trans hR
 have s4_3 := oT hO s4_2 rfl
 have B2_3 := B2_2.ext' hR
 have B3_3 := B3_2.ext' hR
 have B4_3 := B4_2.ext' hR
 have X1_3 := X1_2.ext' hR
 have s10_3 : get a3 10 = Dg.val (Dg.zero) := t10
 clear E2 N2 D2 s2_2 s3_2 s4_2 s9_2 B2_2 B3_2 B4_2 X1_2
 refine tail_none rfl rfl (does_storeD (o := 0) (n := 4) (cs' := [w32 (Dg.zero).a, w32 (Dg.zero).b, w32 (Dg.zero).c, w32 (Dg.zero).d]) (V := Dg.val (Dg.zero)) s4_3 s10_3 B4_3 (nB rfl) rfl siz_24 rfl rfl (fun wd4 hX hz B4_4 => ?_))
 have E4 := E3.since hX (fun k e => e ▸ fr_b4)
 have B2_4 := B2_3.ext hX ne_b2_b4
 have B3_4 := B3_3.ext hX ne_b3_b4
 have X1_4 := SlT.over X1_3 hX nb_x1_b4
 clear hX hz E3 B2_3 B3_3 B4_3 X1_3
 refine tail_put rfl rfl N3 D3 (by decide) (does_assign (V := Value.bool (false)) rfl (fun a5 N5 D5 hv hO => ?_))
 have s5_5 := hv
 have s4_5 := oT hO s4_3 rfl
 clear hO hv N3 D3 s4_3 s10_3
 refine tail_nil ?_
 refine wp_ret ?_
 refine res_two (V1 := Dg.val (Dg.zero)) (V2 := Value.bool (false)) rfl D5 (ResIs.cell s4_5 B4_4 row_24 rfl rfl) s5_5 ?_
 obtain ⟨e1, e2⟩ := prod2is (reachO_no (m := m) (s := s) (by omega))
 exact ⟨by show Value.tuple _ = Value.tuple _; rw [e1, e2], E4⟩
 have hc0 := of_decide_eq_true (bn' hc0)
 refine wp_skip ?_
 refine wp_seq ?_
 refine Rl [] [(11, Pr.ex (Dg.val (m))), (12, Pr.own' NI wd2.heap.size 3 (steps m))] 2 N2 D2 ?_ ?_
 refine Ac ?_ (Ac ?_ (Az _))
 exact Ap fun aq wq _ hO hR hT => does_loadD (o := 0) (n := 4) (mid := [w32 (m).a, w32 (m).b, w32 (m).c, w32 (m).d]) (oT hO s2_2 rfl) (B2_2.ext' hR) rfl rfl (nB rfl) row_24 rfl eR
 exact Ap fun aq wq _ hO hR hT => does_ret (vs := #[Dg.val (m)]) call_63 (args1 (hT 11 rfl rfl)) rfl ((steps_ m wq).mono fun v w2 h => ⟨h.2, OwnT.base h.1 hR.size'⟩)
 intro a6 wd6 N6 D6 hO hR hA hU
 obtain ⟨_, t12, _⟩ := hA
 have E6 := E2.trans hR
 have s3_6 := oT hO s3_2 rfl
 have s4_6 := oT hO s4_2 rfl
 have B2_6 := B2_2.ext' hR
 have B3_6 := B3_2.ext' hR
 have B4_6 := B4_2.ext' hR
 have X1_6 := X1_2.ext' hR
 obtain ⟨x12, s12_6⟩ : ∃ x, get a6 12 = x := ⟨_, rfl⟩
 replace t12 : OwnT NI wd2.heap.size 3 (steps m) x12 wd6 := by rw [← s12_6]; exact t12
 have nbo_x12_b2 := Ob1 t12 B2_2
 have nbo_x12_b3 := Ob1 t12 B3_2
 have nbo_x12_b4 := Ob1 t12 B4_2
 have X12_6 := t12.sl.wide (Nat.zero_le _) (.inl rfl)
 have O12_6 := OwnT.base t12 E2.size'
 clear E2 N2 D2 s2_2 s3_2 s4_2 s9_2 B2_2 B3_2 B4_2 X1_2
 refine tail_put rfl rfl N6 D6 (by decide) (does_alloc zero_103 (fun b6 wd7 he lo_b6 B6_7 => fun a7 N7 D7 hv hO => ?_))
 have s6_7 := hv
 have E7 := E6.trans he
 have B2_7 := B2_6.ext' he
 have B3_7 := B3_6.ext' he
 have B4_7 := B4_6.ext' he
 have X1_7 := X1_6.ext' he
 have X12_7 := X12_6.ext' he
 have O12_7 := O12_6.ext' he
 have fr_b6 : w0.heap.size ≤ b6 := Nat.le_trans E6.size' lo_b6
 have ne_b2_b6 := Hl B2_6 lo_b6
 have ne_b3_b6 := Hl B3_6 lo_b6
 have ne_b4_b6 := Hl B4_6 lo_b6
 have nb_x1_b6 := SlT.old X1_6 lo_b6
 have nb_x12_b6 := SlT.old X12_6 lo_b6
 have nbo_x12_b6 := Ol O12_6 lo_b6
 have s3_7 := oT hO s3_6 rfl
 have s4_7 := oT hO s4_6 rfl
 have s12_7 := oT hO s12_6 rfl
 clear hO hv N6 D6 E6 B2_6 B3_6 B4_6 X1_6 X12_6 O12_6 s3_6 s4_6 s12_6
 refine tail_none rfl rfl (does_storeS (o := 0) (cs' := [x12]) (V := x12) (SlT.cells X12_7) (SlT.one X12_7) s6_7 s12_7 B6_7 (nB rfl) siz_103 rfl (fun wd8 hX hz B6_8 => ?_))
 have E8 := E7.since hX (fun k e => e ▸ fr_b6)
 have B2_8 := B2_7.ext hX ne_b2_b6
 have B3_8 := B3_7.ext hX ne_b3_b6
 have B4_8 := B4_7.ext hX ne_b4_b6
 have X1_8 := SlT.over X1_7 hX nb_x1_b6
 have X12_8 := SlT.over X12_7 hX nb_x12_b6
 have O12_8 := OwnT.ext O12_7 hX (fun k hk e => nbo_x12_b6 (e ▸ hk))
 clear hX hz E7 B2_7 B3_7 B4_7 B6_7 X1_7 X12_7 O12_7
 refine tail_nil ?_
 refine wp_seq ?_
 refine Rl [] [(13, Pr.ex (Value.func (.func 65) #[] #[Value.pointer (some ⟨b3, 0, none⟩), Value.pointer (some ⟨b6, 0, none⟩)])), (14, Pr.ex (Dg.val (reach m s)))] 2 N7 D7 ?_ ?_
 refine Ac ?_ (Ac ?_ (Az _))
 exact Ap fun aq wq _ hO hR hT => does_makeFunc (vs := #[Value.pointer (some ⟨b3, 0, none⟩), Value.pointer (some ⟨b6, 0, none⟩)]) (args2 (oT hO s3_7 rfl) (oT hO s6_7 rfl)) eR
 exact Ap fun aq wq _ hO hR hT => does_ret (vs := #[Value.func (.func 65) #[] #[Value.pointer (some ⟨b3, 0, none⟩), Value.pointer (some ⟨b6, 0, none⟩)]]) call_64 (args1 (hT 13 rfl rfl)) rfl ((ends1 m s b3 b6 x1 x12 wq (hL.ext (E8.trans hR)) (B3_8.ext' hR) (B6_8.ext' hR) ((X1_8.ext' hR).wide (Nat.zero_le _) (.inl rfl)) ((X12_8.ext' hR).wide (Nat.zero_le _) (.inl rfl)) (by omega)).mono fun v w2 h => ⟨h.2, h.1⟩)
 intro a9 wd9 N9 D9 hO hR hA hU
 obtain ⟨_, t14, _⟩ := hA
 have E9 := E8.trans hR
 have s4_9 := oT hO s4_7 rfl
 have B2_9 := B2_8.ext' hR
 have B3_9 := B3_8.ext' hR
 have B4_9 := B4_8.ext' hR
 have B6_9 := B6_8.ext' hR
 have X1_9 := X1_8.ext' hR
 have X12_9 := X12_8.ext' hR
 have O12_9 := O12_8.ext' hR
 have s14_9 : get a9 14 = Dg.val (reach m s) := t14
 clear E8 N7 D7 s3_7 s4_7 s6_7 s12_7 B2_8 B3_8 B4_8 B6_8 X1_8 X12_8 O12_8
 refine tail_none rfl rfl (does_storeD (o := 0) (n := 4) (cs' := [w32 (reach m s).a, w32 (reach m s).b, w32 (reach m s).c, w32 (reach m s).d]) (V := Dg.val (reach m s)) s4_9 s14_9 B4_9 (nB rfl) rfl siz_24 rfl rfl (fun wd10 hX hz B4_10 => ?_))
 have E10 := E9.since hX (fun k e => e ▸ fr_b4)
 have B2_10 := B2_9.ext hX ne_b2_b4
 have B3_10 := B3_9.ext hX ne_b3_b4
 have B6_10 := B6_9.ext hX ne_b4_b6.symm
 have X1_10 := SlT.over X1_9 hX nb_x1_b4
 have X12_10 := SlT.over X12_9 hX (fun _ => nbo_x12_b4)
 have O12_10 := OwnT.ext O12_9 hX (fun k hk e => nbo_x12_b4 (e ▸ hk))
 clear hX hz E9 B2_9 B3_9 B4_9 B6_9 X1_9 X12_9 O12_9
 refine tail_put rfl rfl N9 D9 (by decide) (does_assign (V := Value.bool (true)) rfl (fun a11 N11 D11 hv hO => ?_))
 have s5_11 := hv
 have s4_11 := oT hO s4_9 rfl
 clear hO hv N9 D9 s4_9 s14_9
 refine tail_nil ?_
 refine wp_ret ?_
 refine res_two (V1 := Dg.val (reach m s)) (V2 := Value.bool (true)) rfl D11 (ResIs.cell s4_11 B4_10 row_24 rfl rfl) s5_11 ?_
 obtain ⟨e1, e2⟩ := prod2is (reachO_yes (m := m) (s := s) (by omega))
 exact ⟨by show Value.tuple _ = Value.tuple _; rw [e1, e2], E10⟩

end Go.Proofs.YtmmghpbncejfiaaDoor
