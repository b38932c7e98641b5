/- The walks of functions of the program: printed. -/
import Derived.Test.YtmmghpbncejfiaaDoorK
import Derived.Test.YtmmghpbncejfiaaDoorG3
import Derived.Test.YtmmghpbncejfiaaDoorG60
import Derived.Test.YtmmghpbncejfiaaDoorG64
import Derived.Test.YtmmghpbncejfiaaDoorF0
set_option maxRecDepth 100000
namespace Go.Proofs.YtmmghpbncejfiaaDoor
open Go Go.RowKit Sk Sd
theorem ofEnds (l : List Dg) (x1 : Value) (w0 : World) (hx1 : SlT DG 0 0 l x1 w0) (hn : l.length ≤ 100000) :
    Gives Tryd.prog 71 #[x1] w0 (Pr.ex (Dg.val (tied ⟨35, 0, 0, 0⟩ l))) := by
 refine enter (N := 19) Tryd.func71 rfl rfl ?_
 intro a0 N0 D0 hA
 have s0_0 : get a0 0 = x1 := hA 0 _ rfl
 clear hA
 have E0 : Ext w0 w0 := Ext.refl w0
 have X1_0 := hx1.close
 refine wp_seq ?_
 refine Rl [2] [(2, Pr.box' w0.heap.size 24 [w32 (Dg.zero).a, w32 (Dg.zero).b, w32 (Dg.zero).c, w32 (Dg.zero).d])] 1 N0 D0 ?_ ?_
 refine Ac ?_ (Az _)
 refine Ask.fresh rfl rfl ?_
 intro aq wq hNq hO hR hT
 exact does_alloc zero_24 (fun b w2 he hlo hb => ⟨he, ⟨b, rfl, Nat.le_trans hR.size' hlo, hb⟩, ⟨b, rfl, hlo, hb.lt⟩⟩)
 intro a1 wd1 N1 D1 hO hR hA hU
 obtain ⟨t2, _⟩ := hA
 have E1 := E0.trans hR
 have s0_1 := oT hO s0_0 rfl
 have X1_1 := X1_0.ext' hR
 obtain ⟨b2, s2_1, lo_b2, B2_1⟩ := t2
 have nb_x1_b2 := SlT.old X1_0 lo_b2
 have fr_b2 : w0.heap.size ≤ b2 := Nat.le_trans E0.size' lo_b2
 clear E0 N0 D0 s0_0 X1_0
 refine tail_nil ?_
 refine wp_seq ?_
 refine Rl [3] [(5, Pr.ex (Dg.val ((⟨(35 : UInt32), 0, 0, 0⟩ : Dg)))), (3, Pr.box' wd1.heap.size 24 [w32 (Dg.zero).a, w32 (Dg.zero).b, w32 (Dg.zero).c, w32 (Dg.zero).d])] 2 N1 D1 ?_ ?_
 refine Ac ?_ (Ac ?_ (Az _))
 exact Ap fun aq wq _ hO hR hT => does_build (vs := #[(0, w32 (35))]) (V := Dg.val ((⟨(35 : UInt32), 0, 0, 0⟩ : Dg))) (parts1 rfl) (by kernel_rfl) eR
 refine Ask.fresh rfl rfl ?_
 intro aq wq hNq hO hR hT
 exact does_alloc zero_24 (fun b w2 he hlo hb => ⟨he, ⟨b, rfl, Nat.le_trans hR.size' hlo, hb⟩, ⟨b, rfl, hlo, hb.lt⟩⟩)
 intro a2 wd2 N2 D2 hO hR hA hU
 obtain ⟨t5, t3, _⟩ := hA
 have E2 := E1.trans hR
 have s0_2 := oT hO s0_1 rfl
 have s2_2 := oT hO s2_1 rfl
 have B2_2 := B2_1.ext' hR
 have X1_2 := X1_1.ext' hR
 have s5_2 : get a2 5 = Dg.val ((⟨(35 : UInt32), 0, 0, 0⟩ : Dg)) := t5
 obtain ⟨b3, s3_2, lo_b3, B3_2⟩ := t3
 have ne_b2_b3 := Hl B2_1 lo_b3
 have nb_x1_b3 := SlT.old X1_1 lo_b3
 have fr_b3 : w0.heap.size ≤ b3 := Nat.le_trans E1.size' lo_b3
 clear E1 N1 D1 s0_1 s2_1 B2_1 X1_1
 refine tail_none rfl rfl (does_storeD (o := 0) (n := 4) (cs' := [w32 ((⟨(35 : UInt32), 0, 0, 0⟩ : Dg)).a, w32 ((⟨(35 : UInt32), 0, 0, 0⟩ : Dg)).b, w32 ((⟨(35 : UInt32), 0, 0, 0⟩ : Dg)).c, w32 ((⟨(35 : UInt32), 0, 0, 0⟩ : Dg)).d]) (V := Dg.val ((⟨(35 : UInt32), 0, 0, 0⟩ : Dg))) s3_2 s5_2 B3_2 (nB rfl) rfl siz_24 rfl rfl (fun wd3 hX hz B3_3 => ?_))
 have E3 := E2.since hX (fun k e => e ▸ fr_b3)
 have B2_3 := B2_2.ext hX ne_b2_b3
 have X1_3 := SlT.over X1_2 hX nb_x1_b3
 clear hX hz E2 B2_2 B3_2 X1_2
 refine tail_nil ?_
 refine wp_seq ?_
 refine wp_seq ?_
 refine Rl [] [(4, Pr.ex (i64 ((0 : Nat) : Int)))] 1 N2 D2 ?_ ?_
 refine Ac ?_ (Az _)
 exact Ap fun aq wq _ hO hR hT => does_assign (V := i64 ((0 : Nat) : Int)) rfl eR
 intro a4 wd4 N4 D4 hO hR hA hU
 obtain ⟨t4, _⟩ := hA
 have E4 := E3.trans hR
 have s0_4 := oT hO s0_2 rfl
 have s2_4 := oT hO s2_2 rfl
 have s3_4 := oT hO s3_2 rfl
 have B2_4 := B2_3.ext' hR
 have B3_4 := B3_3.ext' hR
 have X1_4 := X1_3.ext' hR
 have s4_4 : get a4 4 = i64 ((0 : Nat) : Int) := t4
 clear E3 N2 D2 s0_2 s2_2 s3_2 s5_2 B2_3 B3_3 X1_3
 refine tail_nil ?_
 refine wp_block ?_
 refine loop_g (fun mz az wz => ∃ k : Nat, mz = l.length - k ∧ (az.tmps.size = 19) ∧ (az.defers = []) ∧ (get az 0 = x1) ∧ (get az 2 = Value.pointer (some ⟨b2, 0, none⟩)) ∧ (get az 3 = Value.pointer (some ⟨b3, 0, none⟩)) ∧ (get az 4 = i64 (k : Int)) ∧ (Ext w0 wz) ∧ (Has wz b2 24 [w32 (Dg.zero).a, w32 (Dg.zero).b, w32 (Dg.zero).c, w32 (Dg.zero).d]) ∧ (Has wz b3 24 [w32 (tied (⟨(35 : UInt32), (0 : UInt32), (0 : UInt32), (0 : UInt32)⟩ : Dg) (l.take k)).a, w32 (tied (⟨(35 : UInt32), (0 : UInt32), (0 : UInt32), (0 : UInt32)⟩ : Dg) (l.take k)).b, w32 (tied (⟨(35 : UInt32), (0 : UInt32), (0 : UInt32), (0 : UInt32)⟩ : Dg) (l.take k)).c, w32 (tied (⟨(35 : UInt32), (0 : UInt32), (0 : UInt32), (0 : UInt32)⟩ : Dg) (l.take k)).d]) ∧ (SlT DG 0 (w0.heap.size + 1) (l) x1 wz) ∧ (k ≤ l.length)) ?_ ?_
 exact ⟨_, 0, rfl, N4, D4, s0_4, s2_4, s3_4, s4_4, E4, B2_4, B3_4, X1_4, Nat.zero_le _⟩
 rintro mz a5 wd5 ⟨k, rfl, N5, D5, s0_5, s2_5, s3_5, s4_5, E5, B2_5, B3_5, X1_5, hk⟩
 refine wp_seq ?_
 refine wp_seq ?_
 refine Rl [] [(6, Pr.ex (i64 (k : Int))), (7, Pr.ex (x1)), (8, Pr.ex (i64 (l.length : Int))), (9, Pr.ex (Value.bool (decide ((k : Int) < (l.length : Int)))))] 4 N5 D5 ?_ ?_
 refine Ac ?_ (Ac ?_ (Ac ?_ (Ac ?_ (Az _))))
 exact Am s4_5 rfl fun _ => rfl
 exact Am s0_5 rfl fun _ => rfl
 exact Ap fun aq wq _ hO hR hT => does_len (T := DG) (xs := l) sli_27 (SlT.at (hT 7 rfl rfl) (X1_5.ext' hR)) eR
 exact Ap fun aq wq _ hO hR hT => does_lss (a := (k : Int)) (b := (l.length : Int)) (hT 6 rfl rfl) (hT 8 rfl rfl) eR
 intro a6 wd6 N6 D6 hO hR hA hU
 obtain ⟨_, _, _, t9, _⟩ := hA
 have E6 := E5.trans hR
 have s0_6 := oT hO s0_5 rfl
 have s2_6 := oT hO s2_5 rfl
 have s3_6 := oT hO s3_5 rfl
 have s4_6 := oT hO s4_5 rfl
 have B2_6 := B2_5.ext' hR
 have B3_6 := B3_5.ext' hR
 have X1_6 := X1_5.ext' hR
 have s9_6 : get a6 9 = Value.bool (decide ((k : Int) < (l.length : Int))) := t9
 clear E5 N5 D5 s0_5 s2_5 s3_5 s4_5 B2_5 B3_5 X1_5
 refine tail_nil ?_
 refine wp_if (B := decide ((k : Int) < (l.length : Int))) s9_6 (fun hc0 => ?_) (fun hc0 => ?_)
 have hc0 := of_decide_eq_true hc0
 obtain ⟨y, hy⟩ := get_of_lt (l := l) (k := k) (by omega)
 refine wp_skip ?_
 refine wp_seq ?_
 refine wp_block ?_
 refine Ra [] [(12, Pr.ex (Dg.val (tied (⟨(35 : UInt32), (0 : UInt32), (0 : UInt32), (0 : UInt32)⟩ : Dg) (l.take k)))), (13, Pr.ex (x1)), (14, Pr.ex (i64 (k : Int))), (15, Pr.pt' 0 (w0.heap.size + 1) [w32 (y).a, w32 (y).b, w32 (y).c, w32 (y).d]), (16, Pr.ex (Dg.val (y))), (17, Pr.ex (Dg.val (pair (tied (⟨(35 : UInt32), (0 : UInt32), (0 : UInt32), (0 : UInt32)⟩ : Dg) (l.take k)) y)))] 6 mixed N6 D6 ?_ ?_
 refine Ac ?_ (Ac ?_ (Ac ?_ (Ac ?_ (Ac ?_ (Ac ?_ (Az _))))))
 exact Ad fun aq wq _ hO hR hT => does_loadD (o := 0) (n := 4) (mid := [w32 (tied (⟨(35 : UInt32), (0 : UInt32), (0 : UInt32), (0 : UInt32)⟩ : Dg) (l.take k)).a, w32 (tied (⟨(35 : UInt32), (0 : UInt32), (0 : UInt32), (0 : UInt32)⟩ : Dg) (l.take k)).b, w32 (tied (⟨(35 : UInt32), (0 : UInt32), (0 : UInt32), (0 : UInt32)⟩ : Dg) (l.take k)).c, w32 (tied (⟨(35 : UInt32), (0 : UInt32), (0 : UInt32), (0 : UInt32)⟩ : Dg) (l.take k)).d]) (oT hO s3_6 rfl) (B3_6.ext' hR) rfl rfl (nB rfl) row_24 rfl eR
 exact Am s0_6 rfl fun _ => rfl
 exact Am s4_6 rfl fun _ => rfl
 exact Ad fun aq wq _ hO hR hT => does_indexSl (T := DG) (xs := l) (i := (k : Int)) (X := y) sli_27 rfl (SlT.at (hT 13 rfl rfl) (X1_6.ext' hR)) (hT 14 rfl rfl) (by omega) hy (fun v h => ⟨Ext.refl _, h⟩)
 exact Ad fun aq wq _ hO hR hT => does_loadP (cs := [w32 (y).a, w32 (y).b, w32 (y).c, w32 (y).d]) (hT 15 rfl rfl) row_24 rfl eR
 exact Ad fun aq wq _ hO hR hT => does_ret (vs := #[Dg.val (tied (⟨(35 : UInt32), (0 : UInt32), (0 : UInt32), (0 : UInt32)⟩ : Dg) (l.take k)), Dg.val (y)]) call_23 (args2 (hT 12 rfl rfl) (hT 16 rfl rfl)) rfl ((pairR (tied (⟨(35 : UInt32), (0 : UInt32), (0 : UInt32), (0 : UInt32)⟩ : Dg) (l.take k)) (y) wq).mono fun v w2 h => ⟨h.2, h.1⟩)
 intro a7 wd7 N7 D7 hO hR hA hU
 obtain ⟨_, _, _, _, _, t17, _⟩ := hA
 have E7 := E6.trans hR
 have s0_7 := oT hO s0_6 rfl
 have s2_7 := oT hO s2_6 rfl
 have s3_7 := oT hO s3_6 rfl
 have s4_7 := oT hO s4_6 rfl
 have B2_7 := B2_6.ext' hR
 have B3_7 := B3_6.ext' hR
 have X1_7 := X1_6.ext' hR
 have s17_7 : get a7 17 = Dg.val (pair (tied (⟨(35 : UInt32), (0 : UInt32), (0 : UInt32), (0 : UInt32)⟩ : Dg) (l.take k)) y) := t17
 clear E6 N6 D6 s0_6 s2_6 s3_6 s4_6 s9_6 B2_6 B3_6 X1_6
 refine tail_none rfl rfl (does_storeD (o := 0) (n := 4) (cs' := [w32 (pair (tied (⟨(35 : UInt32), (0 : UInt32), (0 : UInt32), (0 : UInt32)⟩ : Dg) (l.take k)) y).a, w32 (pair (tied (⟨(35 : UInt32), (0 : UInt32), (0 : UInt32), (0 : UInt32)⟩ : Dg) (l.take k)) y).b, w32 (pair (tied (⟨(35 : UInt32), (0 : UInt32), (0 : UInt32), (0 : UInt32)⟩ : Dg) (l.take k)) y).c, w32 (pair (tied (⟨(35 : UInt32), (0 : UInt32), (0 : UInt32), (0 : UInt32)⟩ : Dg) (l.take k)) y).d]) (V := Dg.val (pair (tied (⟨(35 : UInt32), (0 : UInt32), (0 : UInt32), (0 : UInt32)⟩ : Dg) (l.take k)) y)) s3_7 s17_7 B3_7 (nB rfl) rfl siz_24 rfl rfl (fun wd8 hX hz B3_8 => ?_))
 have E8 := E7.since hX (fun k e => e ▸ fr_b3)
 have B2_8 := B2_7.ext hX ne_b2_b3
 have X1_8 := SlT.over X1_7 hX nb_x1_b3
 clear hX hz E7 B2_7 B3_7 X1_7
 refine tail_nil ?_
 refine Rl [] [(10, Pr.ex (i64 (k : Int))), (11, Pr.ex (i64 ((k + 1 : Nat) : Int)))] 2 N7 D7 ?_ ?_
 refine Ac ?_ (Ac ?_ (Az _))
 exact Am s4_7 rfl fun _ => rfl
 exact Ap fun aq wq _ hO hR hT => does_add (a := (k : Int)) (b := ((1 : Nat) : Int)) (r := ((k + 1 : Nat) : Int)) (hT 10 rfl rfl) rfl (by omega) (by omega) (by omega) eR
 intro a9 wd9 N9 D9 hO hR hA hU
 obtain ⟨_, t11, _⟩ := hA
 have E9 := E8.trans hR
 have s0_9 := oT hO s0_7 rfl
 have s2_9 := oT hO s2_7 rfl
 have s3_9 := oT hO s3_7 rfl
 have s4_9 := oT hO s4_7 rfl
 have B2_9 := B2_8.ext' hR
 have B3_9 := B3_8.ext' hR
 have X1_9 := X1_8.ext' hR
 have s11_9 : get a9 11 = i64 ((k + 1 : Nat) : Int) := t11
 clear E8 N7 D7 s0_7 s2_7 s3_7 s4_7 s17_7 B2_8 B3_8 X1_8
 refine tail_put rfl rfl N9 D9 (by decide) (does_assign (V := i64 ((k + 1 : Nat) : Int)) s11_9 (fun a10 N10 D10 hv hO => ?_))
 have s4_10 := hv
 have s0_10 := oT hO s0_9 rfl
 have s2_10 := oT hO s2_9 rfl
 have s3_10 := oT hO s3_9 rfl
 clear hO hv N9 D9 s0_9 s2_9 s3_9 s11_9 s4_9
 refine tail_nil ?_
 exact ⟨_, by omega, k + 1, rfl, N10, D10, s0_10, s2_10, s3_10, s4_10, E9, B2_9, (by have h := B3_9; rw [← tied_take _ hy] at h; exact h), X1_9, by omega⟩
 have hc0 := of_decide_eq_false hc0
 have hkl : l.take k = l := List.take_of_length_le (by omega)
 refine wp_exit ?_
 refine wp_seq ?_
 refine Rl [] [(18, Pr.ex (Dg.val (tied (⟨(35 : UInt32), (0 : UInt32), (0 : UInt32), (0 : UInt32)⟩ : Dg) (l.take k))))] 1 N6 D6 ?_ ?_
 refine Ac ?_ (Az _)
 exact Ap fun aq wq _ hO hR hT => does_loadD (o := 0) (n := 4) (mid := [w32 (tied (⟨(35 : UInt32), (0 : UInt32), (0 : UInt32), (0 : UInt32)⟩ : Dg) (l.take k)).a, w32 (tied (⟨(35 : UInt32), (0 : UInt32), (0 : UInt32), (0 : UInt32)⟩ : Dg) (l.take k)).b, w32 (tied (⟨(35 : UInt32), (0 : UInt32), (0 : UInt32), (0 : UInt32)⟩ : Dg) (l.take k)).c, w32 (tied (⟨(35 : UInt32), (0 : UInt32), (0 : UInt32), (0 : UInt32)⟩ : Dg) (l.take k)).d]) (oT hO s3_6 rfl) (B3_6.ext' hR) rfl rfl (nB rfl) row_24 rfl eR
 intro a11 wd11 N11 D11 hO hR hA hU
 obtain ⟨t18, _⟩ := hA
 have E11 := E6.trans hR
 have s2_11 := oT hO s2_6 rfl
 have B2_11 := B2_6.ext' hR
 have B3_11 := B3_6.ext' hR
 have X1_11 := X1_6.ext' hR
 have s18_11 : get a11 18 = Dg.val (tied (⟨(35 : UInt32), (0 : UInt32), (0 : UInt32), (0 : UInt32)⟩ : Dg) (l.take k)) := t18
 clear E6 N6 D6 s0_6 s2_6 s3_6 s4_6 s9_6 B2_6 B3_6 X1_6
 refine tail_none rfl rfl (does_storeD (o := 0) (n := 4) (cs' := [w32 (tied (⟨(35 : UInt32), (0 : UInt32), (0 : UInt32), (0 : UInt32)⟩ : Dg) (l.take k)).a, w32 (tied (⟨(35 : UInt32), (0 : UInt32), (0 : UInt32), (0 : UInt32)⟩ : Dg) (l.take k)).b, w32 (tied (⟨(35 : UInt32), (0 : UInt32), (0 : UInt32), (0 : UInt32)⟩ : Dg) (l.take k)).c, w32 (tied (⟨(35 : UInt32), (0 : UInt32), (0 : UInt32), (0 : UInt32)⟩ : Dg) (l.take k)).d]) (V := Dg.val (tied (⟨(35 : UInt32), (0 : UInt32), (0 : UInt32), (0 : UInt32)⟩ : Dg) (l.take k))) s2_11 s18_11 B2_11 (nB rfl) rfl siz_24 rfl rfl (fun wd12 hX hz B2_12 => ?_))
 have E12 := E11.since hX (fun k e => e ▸ fr_b2)
 have B3_12 := B3_11.ext hX ne_b2_b3.symm
 have X1_12 := SlT.over X1_11 hX nb_x1_b2
 clear hX hz E11 B2_11 B3_11 X1_11
 refine tail_nil ?_
 refine wp_ret ?_
 refine res_one (V := Dg.val (tied (⟨(35 : UInt32), (0 : UInt32), (0 : UInt32), (0 : UInt32)⟩ : Dg) (l.take k))) rfl D11 (ResIs.cell s2_11 B2_12 row_24 rfl rfl) ?_
 exact ⟨by show Dg.val _ = Dg.val _; rw [hkl], E12⟩

theorem reachR (m : Dg) (s : List Dg) (x1 : Value) (w0 : World) (hx1 : SlT DG 0 0 s x1 w0) (hn : s.length ≤ 100000) :
    Gives Tryd.prog 43 #[Dg.val (m), x1] w0 (Pr.ex (Value.tuple #[Dg.val (reachO m s).1, Value.bool (reachO m s).2])) := by
 refine enter (N := 34) Tryd.func43 rfl rfl ?_
 intro a0 N0 D0 hA
 have s0_0 : get a0 0 = Dg.val (m) := hA 0 _ rfl
 have s1_0 : get a0 1 = x1 := hA 1 _ rfl
 clear hA
 have E0 : Ext w0 w0 := Ext.refl w0
 have X1_0 := hx1.close
 refine wp_seq ?_
 refine Rl [2, 4] [(2, Pr.box' w0.heap.size 24 [w32 (m).a, w32 (m).b, w32 (m).c, w32 (m).d]), (4, Pr.box' w0.heap.size 24 [w32 (Dg.zero).a, w32 (Dg.zero).b, w32 (Dg.zero).c, w32 (Dg.zero).d]), (5, Pr.ex (Value.bool (false)))] 3 N0 D0 ?_ ?_
 refine Ac ?_ (Ac ?_ (Ac ?_ (Az _)))
 refine Ask.fresh rfl rfl ?_
 intro aq wq hNq hO hR hT
 exact does_box (V := Dg.val (m)) (oT hO s0_0 rfl) (fun b w2 he hlo hb => ⟨he, ⟨b, rfl, Nat.le_trans hR.size' hlo, hb⟩, ⟨b, rfl, hlo, hb.lt⟩⟩)
 refine Ask.fresh rfl rfl ?_
 intro aq wq hNq hO hR hT
 exact does_alloc zero_24 (fun b w2 he hlo hb => ⟨he, ⟨b, rfl, Nat.le_trans hR.size' hlo, hb⟩, ⟨b, rfl, hlo, hb.lt⟩⟩)
 exact Ap fun aq wq _ hO hR hT => does_assign (V := Value.bool (false)) rfl eR
 intro a1 wd1 N1 D1 hO hR hA hU
 obtain ⟨t2, t4, _, _⟩ := hA
 have E1 := E0.trans hR
 have s1_1 := oT hO s1_0 rfl
 have X1_1 := X1_0.ext' hR
 obtain ⟨b2, s2_1, lo_b2, B2_1⟩ := t2
 have nb_x1_b2 := SlT.old X1_0 lo_b2
 have fr_b2 : w0.heap.size ≤ b2 := Nat.le_trans E0.size' lo_b2
 obtain ⟨b4, s4_1, lo_b4, B4_1⟩ := t4
 have nb_x1_b4 := SlT.old X1_0 lo_b4
 have fr_b4 : w0.heap.size ≤ b4 := Nat.le_trans E0.size' lo_b4
 obtain ⟨u0, ⟨u1, _⟩⟩ := hU
 have ne_b2_b4 : b2 ≠ b4 := fun e => u0 4 (by decide) (by rw [s2_1, s4_1, e])
 clear E0 N0 D0 s0_0 s1_0 X1_0
 refine tail_nil ?_
 refine wp_seq ?_
 refine wp_seq ?_
 refine Rl [] [(9, Pr.ex (x1)), (10, Pr.ex (i64 (s.length : Int))), (11, Pr.ex (Value.bool (!decide ((s.length : Int) = ((35 : Nat) : Int)))))] 3 N1 D1 ?_ ?_
 refine Ac ?_ (Ac ?_ (Ac ?_ (Az _)))
 exact Am s1_1 rfl fun _ => rfl
 exact Ap fun aq wq _ hO hR hT => does_len (T := DG) (xs := s) sli_28 (SlT.at (hT 9 rfl rfl) (X1_1.ext' hR)) eR
 exact Ap fun aq wq _ hO hR hT => does_neq (a := (s.length : Int)) (b := ((35 : Nat) : Int)) (hT 10 rfl rfl) rfl eR
 intro a2 wd2 N2 D2 hO hR hA hU
 obtain ⟨_, _, t11, _⟩ := hA
 have E2 := E1.trans hR
 have s1_2 := oT hO s1_1 rfl
 have s2_2 := oT hO s2_1 rfl
 have s4_2 := oT hO s4_1 rfl
 have B2_2 := B2_1.ext' hR
 have B4_2 := B4_1.ext' hR
 have X1_2 := X1_1.ext' hR
 have s11_2 : get a2 11 = Value.bool (!decide ((s.length : Int) = ((35 : Nat) : Int))) := t11
 clear E1 N1 D1 s1_1 s2_1 s4_1 B2_1 B4_1 X1_1
 refine tail_nil ?_
 refine wp_if (B := !decide ((s.length : Int) = ((35 : Nat) : Int))) s11_2 (fun hc0 => ?_) (fun hc0 => ?_)
 have hc0 := of_decide_eq_false (bn hc0)
 refine wp_seq ?_
 refine Rl [] [(12, Pr.ex (Dg.val (Dg.zero)))] 1 N2 D2 ?_ ?_
 refine Ac ?_ (Az _)
 exact Ap fun aq wq _ hO hR hT => does_build (vs := #[]) (V := Dg.val (Dg.zero)) parts0 (by kernel_rfl) eR
 intro a3 wd3 N3 D3 hO hR hA hU
 obtain ⟨t12, _⟩ := hA
 have E3 := E2.trans hR
 have s4_3 := oT hO s4_2 rfl
 have B2_3 := B2_2.ext' hR
 have B4_3 := B4_2.ext' hR
 have X1_3 := X1_2.ext' hR
 have s12_3 : get a3 12 = Dg.val (Dg.zero) := t12
 clear E2 N2 D2 s1_2 s2_2 s4_2 s11_2 B2_2 B4_2 X1_2
 refine tail_none rfl rfl (does_storeD (o := 0) (n := 4) (cs' := [w32 (Dg.zero).a, w32 (Dg.zero).b, w32 (Dg.zero).c, w32 (Dg.zero).d]) (V := Dg.val (Dg.zero)) s4_3 s12_3 B4_3 (nB rfl) rfl siz_24 rfl rfl (fun wd4 hX hz B4_4 => ?_))
 have E4 := E3.since hX (fun k e => e ▸ fr_b4)
 have B2_4 := B2_3.ext hX ne_b2_b4
 have X1_4 := SlT.over X1_3 hX nb_x1_b4
 clear hX hz E3 B2_3 B4_3 X1_3
 refine tail_put rfl rfl N3 D3 (by decide) (does_assign (V := Value.bool (false)) rfl (fun a5 N5 D5 hv hO => ?_))
 have s5_5 := hv
 have s4_5 := oT hO s4_3 rfl
 clear hO hv N3 D3 s4_3 s12_3
 refine tail_nil ?_
 refine wp_ret ?_
 refine res_two (V1 := Dg.val (Dg.zero)) (V2 := Value.bool (false)) rfl D5 (ResIs.cell s4_5 B4_4 row_24 rfl rfl) s5_5 ?_
 obtain ⟨e1, e2⟩ := prod2is (reachO_no (m := m) (s := s) (by omega))
 exact ⟨by show Value.tuple _ = Value.tuple _; rw [e1, e2], E4⟩
 have hc0 := of_decide_eq_true (bn' hc0)
 have hs : s.length = 35 := by omega
 refine wp_skip ?_
 refine wp_seq ?_
 refine Rl [] [(13, Pr.ex (Dg.val (m))), (14, Pr.own' NI wd2.heap.size 3 (steps m)), (6, Pr.own' NI wd2.heap.size 3 (steps m))] 3 N2 D2 ?_ ?_
 refine Ac ?_ (Ac ?_ (Ac ?_ (Az _)))
 exact Ap fun aq wq _ hO hR hT => does_loadD (o := 0) (n := 4) (mid := [w32 (m).a, w32 (m).b, w32 (m).c, w32 (m).d]) (oT hO s2_2 rfl) (B2_2.ext' hR) rfl rfl (nB rfl) row_24 rfl eR
 exact Ap fun aq wq _ hO hR hT => does_ret (vs := #[Dg.val (m)]) call_69 (args1 (hT 13 rfl rfl)) rfl ((stepsR m wq).mono fun v w2 h => ⟨h.2, OwnT.base h.1 hR.size'⟩)
 exact Ap fun aq wq _ hO hR hT => does_assign rfl ⟨Ext.refl _, (hT 14 rfl rfl)⟩
 intro a6 wd6 N6 D6 hO hR hA hU
 obtain ⟨_, _, t6, _⟩ := hA
 have E6 := E2.trans hR
 have s1_6 := oT hO s1_2 rfl
 have s4_6 := oT hO s4_2 rfl
 have B2_6 := B2_2.ext' hR
 have B4_6 := B4_2.ext' hR
 have X1_6 := X1_2.ext' hR
 obtain ⟨x6, s6_6⟩ : ∃ x, get a6 6 = x := ⟨_, rfl⟩
 replace t6 : OwnT NI wd2.heap.size 3 (steps m) x6 wd6 := by rw [← s6_6]; exact t6
 have nbo_x6_b2 := Ob1 t6 B2_2
 have nbo_x6_b4 := Ob1 t6 B4_2
 have X6_6 := t6.sl.wide (Nat.zero_le _) (.inl rfl)
 have O6_6 := OwnT.base t6 E2.size'
 clear E2 N2 D2 s1_2 s2_2 s4_2 s11_2 B2_2 B4_2 X1_2
 refine tail_nil ?_
 refine wp_seq ?_
 refine Rl [] [(7, Pr.ex (Value.slice none 0 0))] 1 N6 D6 ?_ ?_
 refine Ac ?_ (Az _)
 exact Ap fun aq wq _ hO hR hT => does_assign (V := Value.slice none 0 0) rfl eR
 intro a7 wd7 N7 D7 hO hR hA hU
 obtain ⟨t7, _⟩ := hA
 have E7 := E6.trans hR
 have s1_7 := oT hO s1_6 rfl
 have s4_7 := oT hO s4_6 rfl
 have s6_7 := oT hO s6_6 rfl
 have B2_7 := B2_6.ext' hR
 have B4_7 := B4_6.ext' hR
 have X1_7 := X1_6.ext' hR
 have X6_7 := X6_6.ext' hR
 have O6_7 := O6_6.ext' hR
 have s7_7 : get a7 7 = Value.slice none 0 0 := t7
 clear E6 N6 D6 s1_6 s4_6 s6_6 B2_6 B4_6 X1_6 X6_6 O6_6
 refine tail_nil ?_
 refine wp_seq ?_
 refine wp_seq ?_
 refine Rl [] [(8, Pr.ex (i64 ((0 : Nat) : Int)))] 1 N7 D7 ?_ ?_
 refine Ac ?_ (Az _)
 exact Ap fun aq wq _ hO hR hT => does_assign (V := i64 ((0 : Nat) : Int)) rfl eR
 intro a8 wd8 N8 D8 hO hR hA hU
 obtain ⟨t8, _⟩ := hA
 have E8 := E7.trans hR
 have s1_8 := oT hO s1_7 rfl
 have s4_8 := oT hO s4_7 rfl
 have s6_8 := oT hO s6_7 rfl
 have s7_8 := oT hO s7_7 rfl
 have B2_8 := B2_7.ext' hR
 have B4_8 := B4_7.ext' hR
 have X1_8 := X1_7.ext' hR
 have X6_8 := X6_7.ext' hR
 have O6_8 := O6_7.ext' hR
 have s8_8 : get a8 8 = i64 ((0 : Nat) : Int) := t8
 clear E7 N7 D7 s1_7 s4_7 s6_7 s7_7 B2_7 B4_7 X1_7 X6_7 O6_7
 refine tail_nil ?_
 refine wp_block ?_
 refine loop_g (fun mz az wz => ∃ k : Nat, ∃ xo : Value, mz = 35 - k ∧ (az.tmps.size = 34) ∧ (az.defers = []) ∧ (get az 1 = x1) ∧ (get az 4 = Value.pointer (some ⟨b4, 0, none⟩)) ∧ (get az 6 = x6) ∧ (get az 7 = xo) ∧ (get az 8 = i64 (k : Int)) ∧ (Ext w0 wz) ∧ (Has wz b2 24 [w32 (m).a, w32 (m).b, w32 (m).c, w32 (m).d]) ∧ (Has wz b4 24 [w32 (Dg.zero).a, w32 (Dg.zero).b, w32 (Dg.zero).c, w32 (Dg.zero).d]) ∧ (SlT DG 0 (w0.heap.size + 1) (s) x1 wz) ∧ (SlT NI 0 0 (steps m) x6 wz) ∧ (OwnT DG w0.heap.size 24 ((List.range k).map (chain m s)) xo wz) ∧ (xo.ownBlock ≠ some b2) ∧ (xo.ownBlock ≠ some b4) ∧ (OwnT NI w0.heap.size 3 (steps m) x6 wz) ∧ (x6.ownBlock ≠ some b2) ∧ (x6.ownBlock ≠ some b4) ∧ (k ≤ 35)) ?_ ?_
 exact ⟨_, 0, (Value.slice none 0 0), rfl, N8, D8, s1_8, s4_8, s6_8, s7_8, s8_8, E8, B2_8, B4_8, X1_8, X6_8, (OwnT.nil DG w0.heap.size 24 _), (by intro e; cases e), (by intro e; cases e), O6_8, nbo_x6_b2, nbo_x6_b4, by decide⟩
 rintro mz a9 wd9 ⟨k, xo, rfl, N9, D9, s1_9, s4_9, s6_9, s7_9, s8_9, E9, B2_9, B4_9, X1_9, X6_9, hoxo_9, nbo_xo_b2, nbo_xo_b4, O6_9, nbo_x6_b2, nbo_x6_b4, hk⟩
 have hsxo_9 := hoxo_9.sl.wide (Nat.zero_le _) (.inl rfl)
 have X6_9 := O6_9.sl.wide (Nat.zero_le _) (.inl rfl)
 refine wp_seq ?_
 refine wp_seq ?_
 refine Rl [] [(15, Pr.ex (i64 (k : Int))), (16, Pr.ex (Value.bool (decide ((k : Int) < ((35 : Nat) : Int)))))] 2 N9 D9 ?_ ?_
 refine Ac ?_ (Ac ?_ (Az _))
 exact Am s8_9 rfl fun _ => rfl
 exact Ap fun aq wq _ hO hR hT => does_lss (a := (k : Int)) (b := ((35 : Nat) : Int)) (hT 15 rfl rfl) rfl eR
 intro a10 wd10 N10 D10 hO hR hA hU
 obtain ⟨_, t16, _⟩ := hA
 have E10 := E9.trans hR
 have s1_10 := oT hO s1_9 rfl
 have s4_10 := oT hO s4_9 rfl
 have s6_10 := oT hO s6_9 rfl
 have s7_10 := oT hO s7_9 rfl
 have s8_10 := oT hO s8_9 rfl
 have B2_10 := B2_9.ext' hR
 have B4_10 := B4_9.ext' hR
 have X1_10 := X1_9.ext' hR
 have X6_10 := X6_9.ext' hR
 have hsxo_10 := hsxo_9.ext' hR
 have hoxo_10 := hoxo_9.ext' hR
 have O6_10 := O6_9.ext' hR
 have s16_10 : get a10 16 = Value.bool (decide ((k : Int) < ((35 : Nat) : Int))) := t16
 clear E9 N9 D9 s1_9 s4_9 s6_9 s7_9 s8_9 B2_9 B4_9 X1_9 X6_9 hsxo_9 hoxo_9 O6_9
 refine tail_nil ?_
 refine wp_if (B := decide ((k : Int) < ((35 : Nat) : Int))) s16_10 (fun hc1 => ?_) (fun hc1 => ?_)
 have hc1 := of_decide_eq_true hc1
 have hk35 : k < 35 := by omega
 have hle := steps_le m k
 refine wp_skip ?_
 refine wp_seq ?_
 refine wp_block ?_
 refine Ra [] [(19, Pr.ex (xo)), (20, Pr.ex (x1)), (21, Pr.ex (i64 (k : Int))), (22, Pr.pt' 0 (w0.heap.size + 1) [w32 ((s.getD k Dg.zero)).a, w32 ((s.getD k Dg.zero)).b, w32 ((s.getD k Dg.zero)).c, w32 ((s.getD k Dg.zero)).d]), (23, Pr.ex (Dg.val ((s.getD k Dg.zero)))), (24, Pr.ex (x6)), (25, Pr.ex (i64 (k : Int))), (26, Pr.pt' 0 0 [i64 (((steps m).getD k 0 : Nat) : Int)]), (27, Pr.ex (i64 (((steps m).getD k 0 : Nat) : Int))), (28, Pr.ex (i64 ((15 - ((steps m).getD k 0) : Nat) : Int))), (29, Pr.ex (Dg.val (walk ((s.getD k Dg.zero)) (15 - ((steps m).getD k 0))))), (30, Pr.own' DG wd10.heap.size 24 ([walk ((s.getD k Dg.zero)) (15 - ((steps m).getD k 0))]))] 12 mixed N10 D10 ?_ ?_
 refine Ac ?_ (Ac ?_ (Ac ?_ (Ac ?_ (Ac ?_ (Ac ?_ (Ac ?_ (Ac ?_ (Ac ?_ (Ac ?_ (Ac ?_ (Ac ?_ (Az _))))))))))))
 exact Am s7_10 rfl fun _ => rfl
 exact Am s1_10 rfl fun _ => rfl
 exact Am s8_10 rfl fun _ => rfl
 exact Ad fun aq wq _ hO hR hT => does_indexSl (T := DG) (xs := s) (i := (k : Int)) (X := (s.getD k Dg.zero)) sli_28 rfl (SlT.at (hT 20 rfl rfl) (X1_10.ext' hR)) (hT 21 rfl rfl) (by omega) (getD_get (by omega)) (fun v h => ⟨Ext.refl _, h⟩)
 exact Ad fun aq wq _ hO hR hT => does_loadP (cs := [w32 ((s.getD k Dg.zero)).a, w32 ((s.getD k Dg.zero)).b, w32 ((s.getD k Dg.zero)).c, w32 ((s.getD k Dg.zero)).d]) (hT 22 rfl rfl) row_24 rfl eR
 exact Am s6_10 rfl fun _ => rfl
 exact Am s8_10 rfl fun _ => rfl
 exact Ad fun aq wq _ hO hR hT => does_indexSl (T := NI) (xs := steps m) (i := (k : Int)) (X := (steps m).getD k 0) sli_103 rfl (SlT.at (hT 24 rfl rfl) (X6_10.ext' hR)) (hT 25 rfl rfl) (by omega) (steps_get m hk35) (fun v h => ⟨Ext.refl _, h⟩)
 exact Ad fun aq wq _ hO hR hT => does_loadP1 (V := i64 (((steps m).getD k 0 : Nat) : Int)) (hT 26 rfl rfl) one_3 eR
 exact Ad fun aq wq _ hO hR hT => does_sub (a := ((15 : Nat) : Int)) (b := (((steps m).getD k 0 : Nat) : Int)) (r := ((15 - ((steps m).getD k 0) : Nat) : Int)) rfl (hT 27 rfl rfl) (by omega) (by omega) (by omega) eR
 exact Ad fun aq wq _ hO hR hT => does_ret (vs := #[Dg.val ((s.getD k Dg.zero)), i64 ((15 - ((steps m).getD k 0) : Nat) : Int)]) call_70 (args2 (hT 23 rfl rfl) (hT 28 rfl rfl)) rfl ((walkR ((s.getD k Dg.zero)) (15 - ((steps m).getD k 0)) wq (by omega)).mono fun v w2 h => ⟨h.2, h.1⟩)
 exact Ad fun aq wq _ hO hR hT => does_slice1 (T := DG) (X := walk ((s.getD k Dg.zero)) (15 - ((steps m).getD k 0))) (V := Dg.val (walk ((s.getD k Dg.zero)) (15 - ((steps m).getD k 0)))) app_27 rfl (by decide) (hT 29 rfl rfl) rfl (fun v w2 he _ ho => ⟨he, OwnT.base ho hR.size'⟩)
 intro a11 wd11 N11 D11 hO hR hA hU
 obtain ⟨t19, _, _, _, _, _, _, _, _, _, _, t30, _⟩ := hA
 have E11 := E10.trans hR
 have s1_11 := oT hO s1_10 rfl
 have s4_11 := oT hO s4_10 rfl
 have s6_11 := oT hO s6_10 rfl
 have s7_11 := oT hO s7_10 rfl
 have s8_11 := oT hO s8_10 rfl
 have B2_11 := B2_10.ext' hR
 have B4_11 := B4_10.ext' hR
 have X1_11 := X1_10.ext' hR
 have X6_11 := X6_10.ext' hR
 have hsxo_11 := hsxo_10.ext' hR
 have hoxo_11 := hoxo_10.ext' hR
 have O6_11 := O6_10.ext' hR
 have s19_11 : get a11 19 = xo := t19
 obtain ⟨x30, s30_11⟩ : ∃ x, get a11 30 = x := ⟨_, rfl⟩
 replace t30 : OwnT DG wd10.heap.size 24 ([walk ((s.getD k Dg.zero)) (15 - ((steps m).getD k 0))]) x30 wd11 := by rw [← s30_11]; exact t30
 have nbo_x30_b2 := Ob1 t30 B2_10
 have nbo_x30_b4 := Ob1 t30 B4_10
 have no_x30_xo := Oo t30 hoxo_10
 have no_x30_x6 := Oo t30 O6_10
 have X30_11 := t30.sl.wide (Nat.zero_le _) (.inl rfl)
 have O30_11 := OwnT.base t30 E10.size'
 clear E10 N10 D10 s1_10 s4_10 s6_10 s7_10 s8_10 s16_10 B2_10 B4_10 X1_10 X6_10 hsxo_10 hoxo_10 O6_10
 refine tail_put rfl rfl N11 D11 (by decide) (does_append (T := DG) (base := w0.heap.size) (xs := (List.range k).map (chain m s)) (ys := [walk ((s.getD k Dg.zero)) (15 - ((steps m).getD k 0))]) (v := xo) app_27 s19_11 hoxo_11 (SlT.at s30_11 X30_11) (by simp) (by simp only [List.length_map, List.length_range, List.length_cons, List.length_nil]; omega) (by simp only [List.length_map, List.length_range, List.length_cons, List.length_nil]; omega) E11.size' (fun x31 wd12 hX O31_12 hk a12 N12 D12 hv hO => ?_))
 have E12 := E11.since hX (fun b hb => Nat.le_trans (Nat.le_refl _) (OwnT.block_lt hoxo_11 hb).1)
 have B2_12 := B2_11.ext hX nbo_xo_b2
 have nbo_x31_b2 : x31.ownBlock ≠ some b2 := fun e => (hk _ e).elim nbo_xo_b2 (fun h => Nat.lt_irrefl _ (Nat.lt_of_lt_of_le B2_11.lt h))
 have B4_12 := B4_11.ext hX nbo_xo_b4
 have nbo_x31_b4 : x31.ownBlock ≠ some b4 := fun e => (hk _ e).elim nbo_xo_b4 (fun h => Nat.lt_irrefl _ (Nat.lt_of_lt_of_le B4_11.lt h))
 have X1_12 := SlT.overOwn X1_11 hoxo_11 hX
 have no_xo_x6 := OwnT.apart hoxo_11 O6_11 (by decide)
 have O6_12 := OwnT.ext O6_11 hX (fun k hk e => no_xo_x6 k e hk)
 have no_x31_x6 : ∀ k, x31.ownBlock = some k → x6.ownBlock ≠ some k := fun k e e' => (hk k e).elim (fun h => no_xo_x6 k h e') (fun h => Nat.lt_irrefl _ (Nat.lt_of_lt_of_le (OwnT.block_lt O6_11 e').2 h))
 have X6_12 := O6_12.sl.wide (Nat.zero_le _) (.inl rfl)
 have O30_12 := OwnT.ext O30_11 hX (fun k hk e => no_x30_xo k hk e)
 have no_x31_x30 : ∀ k, x31.ownBlock = some k → x30.ownBlock ≠ some k := fun k e e' => (hk k e).elim (fun h => no_x30_xo k e' h) (fun h => Nat.lt_irrefl _ (Nat.lt_of_lt_of_le (OwnT.block_lt O30_11 e').2 h))
 have X30_12 := O30_12.sl.wide (Nat.zero_le _) (.inl rfl)
 have X31_12 := O31_12.sl.wide (Nat.zero_le _) (.inl rfl)
 rw [(show (List.range k).map (chain m s) ++ [walk (s.getD k Dg.zero) (15 - (steps m).getD k 0)] = (List.range (k + 1)).map (chain m s) from range_step rfl)] at O31_12 X31_12
 have s31_12 := hv
 have s1_12 := oT hO s1_11 rfl
 have s4_12 := oT hO s4_11 rfl
 have s6_12 := oT hO s6_11 rfl
 have s7_12 := oT hO s7_11 rfl
 have s8_12 := oT hO s8_11 rfl
 clear hO hv hX hk N11 D11 E11 B2_11 B4_11 X1_11 O6_11 O30_11 s1_11 s4_11 s6_11 s7_11 s8_11 s19_11 s30_11
 refine tail_put rfl rfl N12 D12 (by decide) (does_assign (V := x31) s31_12 (fun a13 N13 D13 hv hO => ?_))
 have s7_13 := hv
 have s1_13 := oT hO s1_12 rfl
 have s4_13 := oT hO s4_12 rfl
 have s6_13 := oT hO s6_12 rfl
 have s8_13 := oT hO s8_12 rfl
 clear hO hv N12 D12 s1_12 s4_12 s6_12 s8_12 s31_12 s7_12
 refine tail_nil ?_
 refine Rl [] [(17, Pr.ex (i64 (k : Int))), (18, Pr.ex (i64 ((k + 1 : Nat) : Int)))] 2 N13 D13 ?_ ?_
 refine Ac ?_ (Ac ?_ (Az _))
 exact Am s8_13 rfl fun _ => rfl
 exact Ap fun aq wq _ hO hR hT => does_add (a := (k : Int)) (b := ((1 : Nat) : Int)) (r := ((k + 1 : Nat) : Int)) (hT 17 rfl rfl) rfl (by omega) (by omega) (by omega) eR
 intro a14 wd14 N14 D14 hO hR hA hU
 obtain ⟨_, t18, _⟩ := hA
 have E14 := E12.trans hR
 have s1_14 := oT hO s1_13 rfl
 have s4_14 := oT hO s4_13 rfl
 have s6_14 := oT hO s6_13 rfl
 have s7_14 := oT hO s7_13 rfl
 have s8_14 := oT hO s8_13 rfl
 have B2_14 := B2_12.ext' hR
 have B4_14 := B4_12.ext' hR
 have X1_14 := X1_12.ext' hR
 have X6_14 := X6_12.ext' hR
 have X30_14 := X30_12.ext' hR
 have X31_14 := X31_12.ext' hR
 have O6_14 := O6_12.ext' hR
 have O30_14 := O30_12.ext' hR
 have O31_14 := O31_12.ext' hR
 have s18_14 : get a14 18 = i64 ((k + 1 : Nat) : Int) := t18
 clear E12 N13 D13 s1_13 s4_13 s6_13 s7_13 s8_13 B2_12 B4_12 X1_12 X6_12 X30_12 X31_12 O6_12 O30_12 O31_12
 refine tail_put rfl rfl N14 D14 (by decide) (does_assign (V := i64 ((k + 1 : Nat) : Int)) s18_14 (fun a15 N15 D15 hv hO => ?_))
 have s8_15 := hv
 have s1_15 := oT hO s1_14 rfl
 have s4_15 := oT hO s4_14 rfl
 have s6_15 := oT hO s6_14 rfl
 have s7_15 := oT hO s7_14 rfl
 clear hO hv N14 D14 s1_14 s4_14 s6_14 s7_14 s18_14 s8_14
 refine tail_nil ?_
 exact ⟨_, by omega, k + 1, x31, rfl, N15, D15, s1_15, s4_15, s6_15, s7_15, s8_15, E14, B2_14, B4_14, X1_14, X6_14, O31_14, nbo_x31_b2, nbo_x31_b4, O6_14, nbo_x6_b2, nbo_x6_b4, by omega⟩
 have hc1 := of_decide_eq_false hc1
 have hk35 : k = 35 := by omega
 refine wp_exit ?_
 refine wp_seq ?_
 refine Rl [] [(32, Pr.ex (xo)), (33, Pr.ex (Dg.val (tied ⟨35, 0, 0, 0⟩ ((List.range k).map (chain m s)))))] 2 N10 D10 ?_ ?_
 refine Ac ?_ (Ac ?_ (Az _))
 exact Am s7_10 rfl fun _ => rfl
 exact Ap fun aq wq _ hO hR hT => does_ret (vs := #[xo]) call_71 (args1 (hT 32 rfl rfl)) rfl ((ofEnds ((List.range k).map (chain m s)) (xo) wq ((hsxo_10.ext' hR).wide (Nat.zero_le _) (.inl rfl)) (by simp only [List.length_map, List.length_range, List.length_cons, List.length_nil]; omega)).mono fun v w2 h => ⟨h.2, h.1⟩)
 intro a16 wd16 N16 D16 hO hR hA hU
 obtain ⟨_, t33, _⟩ := hA
 have E16 := E10.trans hR
 have s4_16 := oT hO s4_10 rfl
 have B2_16 := B2_10.ext' hR
 have B4_16 := B4_10.ext' hR
 have X1_16 := X1_10.ext' hR
 have X6_16 := X6_10.ext' hR
 have hsxo_16 := hsxo_10.ext' hR
 have hoxo_16 := hoxo_10.ext' hR
 have O6_16 := O6_10.ext' hR
 have s33_16 : get a16 33 = Dg.val (tied ⟨35, 0, 0, 0⟩ ((List.range k).map (chain m s))) := t33
 clear E10 N10 D10 s1_10 s4_10 s6_10 s7_10 s8_10 s16_10 B2_10 B4_10 X1_10 X6_10 hsxo_10 hoxo_10 O6_10
 refine tail_none rfl rfl (does_storeD (o := 0) (n := 4) (cs' := [w32 (tied ⟨35, 0, 0, 0⟩ ((List.range k).map (chain m s))).a, w32 (tied ⟨35, 0, 0, 0⟩ ((List.range k).map (chain m s))).b, w32 (tied ⟨35, 0, 0, 0⟩ ((List.range k).map (chain m s))).c, w32 (tied ⟨35, 0, 0, 0⟩ ((List.range k).map (chain m s))).d]) (V := Dg.val (tied ⟨35, 0, 0, 0⟩ ((List.range k).map (chain m s)))) s4_16 s33_16 B4_16 (nB rfl) rfl siz_24 rfl rfl (fun wd17 hX hz B4_17 => ?_))
 have E17 := E16.since hX (fun k e => e ▸ fr_b4)
 have B2_17 := B2_16.ext hX ne_b2_b4
 have X1_17 := SlT.over X1_16 hX nb_x1_b4
 have X6_17 := SlT.over X6_16 hX (fun _ => nbo_x6_b4)
 have hsxo_17 := SlT.over hsxo_16 hX (fun _ => nbo_xo_b4)
 have hoxo_17 := OwnT.ext hoxo_16 hX (fun k hk e => nbo_xo_b4 (e ▸ hk))
 have O6_17 := OwnT.ext O6_16 hX (fun k hk e => nbo_x6_b4 (e ▸ hk))
 clear hX hz E16 B2_16 B4_16 X1_16 X6_16 hsxo_16 hoxo_16 O6_16
 refine tail_put rfl rfl N16 D16 (by decide) (does_assign (V := Value.bool (true)) rfl (fun a18 N18 D18 hv hO => ?_))
 have s5_18 := hv
 have s4_18 := oT hO s4_16 rfl
 clear hO hv N16 D16 s4_16 s33_16
 refine tail_nil ?_
 refine wp_ret ?_
 refine res_two (V1 := Dg.val (tied ⟨35, 0, 0, 0⟩ ((List.range k).map (chain m s)))) (V2 := Value.bool (true)) rfl D18 (ResIs.cell s4_18 B4_17 row_24 rfl rfl) s5_18 ?_
 obtain ⟨e1, e2⟩ := prod2is (reachO_yes (m := m) (s := s) hs)
 exact ⟨by show Value.tuple _ = Value.tuple _; rw [e1, e2, reach_eq, hk35], E17⟩

end Go.Proofs.YtmmghpbncejfiaaDoor
