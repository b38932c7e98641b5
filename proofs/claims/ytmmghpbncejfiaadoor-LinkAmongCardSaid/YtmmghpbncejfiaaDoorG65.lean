/- The walks of functions of the program: printed. -/
import Derived.Test.YtmmghpbncejfiaaDoorK
import Derived.Test.YtmmghpbncejfiaaDoorG3
import Derived.Test.YtmmghpbncejfiaaDoorG60
import Derived.Test.YtmmghpbncejfiaaDoorG64
import Derived.Test.YtmmghpbncejfiaaDoorF0
set_option maxRecDepth 100000
namespace Go.Proofs.YtmmghpbncejfiaaDoor
open Go Go.RowKit Sk Sd
theorem ofEnds (l : List Dg) (x1 : Value) (w0 : World) (hx1 : SlT DG 0 0 l x1 w0) (hn : l.length ≤ 100000) :
    Gives Tryd.prog 71 #[x1] w0 (Pr.ex (Dg.val (tied ⟨35, 0, 0, 0⟩ l))) := by
 refine enter (N := 19) Tryd.func71 rfl rfl ?_
 intro a0 N0 D0 hA
 have s0_0 : get a0 0 = x1 := hA 0 _ rfl
 clear hA
 have E0 : Ext w0 w0 := Ext.refl w0
 have X1_0 := hx1.close
 refine wp_seq ?_
 refine Rl [2] [(2, Pr.box' w0.heap.size 24 [w32 (Dg.zero).a, w32 (Dg.zero).b, w32 (Dg.zero).c, w32 (Dg.zero).d])] 1 N0 D0 ?_ ?_
 refine Ac ?_ (Az _)
 refine Ask.fresh rfl rfl ?_
 intro aq wq hNq hO hR hT
 exact does_alloc zero_24 (fun b w2 he hlo hb => ⟨he, ⟨b, rfl, Nat.le_trans hR.size' hlo, hb⟩, ⟨b, rfl, hlo, hb.lt⟩⟩)
 intro a1 wd1 N1 D1 hO hR hA hU
 obtain ⟨t2, _⟩ := hA
 have E1 := E0.trans hR
 have s0_1 := oT hO s0_0 rfl
 have X1_1 := X1_0.ext' hR
 obtain ⟨b2, s2_1, lo_b2, B2_1⟩ := t2
 have nb_x1_b2 := SlT.old X1_0 lo_b2
 have fr_b2 : w0.heap.size ≤ b2 := Nat.le_trans E0.size' lo_b2
 clear E0 N0 D0 s0_0 X1_0
 refine tail_nil ?_
 refine wp_seq ?_
 refine Rl [3] [(5, Pr.ex (Dg.val ((⟨(35 : UInt32), 0, 0, 0⟩ : Dg)))), (3, Pr.box' wd1.heap.size 24 [w32 (Dg.zero).a, w32 (Dg.zero).b, w32 (Dg.zero).c, w32 (Dg.zero).d])] 2 N1 D1 ?_ ?_
 refine Ac ?_ (Ac ?_ (Az _))
 exact Ap fun aq wq _ hO hR hT => does_build (vs := #[(0, w32 (35))]) (V := Dg.val ((⟨(35 : UInt32), 0, 0, 0⟩ : Dg))) (parts1 rfl) (by kernel_rfl) eR
 refine Ask.fresh rfl rfl ?_
 intro aq wq hNq hO hR hT
 exact does_alloc zero_24 (fun b w2 he hlo hb => ⟨he, ⟨b, rfl, Nat.le_trans hR.size' hlo, hb⟩, ⟨b, rfl, hlo, hb.lt⟩⟩)
 intro a2 wd2 N2 D2 hO hR hA hU
 obtain ⟨t5, t3, _⟩ := hA
 have E2 := E1.trans hR
 have s0_2 := oT hO s0_1 rfl
 have s2_2 := oT hO s2_1 rfl
 have B2_2 := B2_1.ext' hR
 have X1_2 := X1_1.ext' hR
 have s5_2 : get a2 5 = Dg.val ((⟨(35 : UInt32), 0, 0, 0⟩ : Dg)) := t5
 obtain ⟨b3, s3_2, lo_b3, B3_2⟩ := t3
 have ne_b2_b3 := Hl B2_1 lo_b3
 have nb_x1_b3 := SlT.old X1_1 lo_b3
 have fr_b3 : w0.heap.size ≤ b3 := Nat.le_trans E1.size' lo_b3
 clear E1 N1 D1 s0_1 s2_1 B2_1 X1_1
 refine tail_none rfl rfl (does_storeD (o := 0) (n := 4) (cs' := [w32 ((⟨(35 : UInt32), 0, 0, 0⟩ : Dg)).a, w32 ((⟨(35 : UInt32), 0, 0, 0⟩ : Dg)).b, w32 ((⟨(35 : UInt32), 0, 0, 0⟩ : Dg)).c, w32 ((⟨(35 : UInt32), 0, 0, 0⟩ : Dg)).d]) (V := Dg.val ((⟨(35 : UInt32), 0, 0, 0⟩ : Dg))) s3_2 s5_2 B3_2 (nB rfl) rfl siz_24 rfl rfl (fun wd3 hX hz B3_3 => ?_))
 have E3 := E2.since hX (fun k e => e ▸ fr_b3)
 have B2_3 := B2_2.ext hX ne_b2_b3
 have X1_3 := SlT.over X1_2 hX nb_x1_b3
 clear hX hz E2 B2_2 B3_2 X1_2
 refine tail_nil ?_
 refine wp_seq ?_
 refine wp_seq ?_
 refine Rl [] [(4, Pr.ex (i64 ((0 : Nat) : Int)))] 1 N2 D2 ?_ ?_
 refine Ac ?_ (Az _)
 exact Ap fun aq wq _ hO hR hT => does_assign (V := i64 ((0 : Nat) : Int)) rfl eR
 intro a4 wd4 N4 D4 hO hR hA hU
 obtain ⟨t4, _⟩ := hA
 have E4 := E3.trans hR
 have s0_4 := oT hO s0_2 rfl
 have s2_4 := oT hO s2_2 rfl
 have s3_4 := oT hO s3_2 rfl
 have B2_4 := B2_3.ext' hR
 have B3_4 := B3_3.ext' hR
 have X1_4 := X1_3.ext' hR
 have s4_4 : get a4 4 = i64 ((0 : Nat) : Int) := t4
 clear E3 N2 D2 s0_2 s2_2 s3_2 s5_2 B2_3 B3_3 X1_3
 refine tail_nil ?_
 refine wp_block ?_
 refine loop_g (fun mz az wz => ∃ k : Nat, mz = l.length - k ∧ (az.tmps.size = 19) ∧ (az.defers = []) ∧ (get az 0 = x1) ∧ (get az 2 = Value.pointer (some ⟨b2, 0, none⟩)) ∧ (get az 3 = Value.pointer (some ⟨b3, 0, none⟩)) ∧ (get az 4 = i64 (k : Int)) ∧ (Ext w0 wz) ∧ (Has wz b2 24 [w32 (Dg.zero).a, w32 (Dg.zero).b, w32 (Dg.zero).c, w32 (Dg.zero).d]) ∧ (Has wz b3 24 [w32 (tied (⟨(35 : UInt32), (0 : UInt32), (0 : UInt32), (0 : UInt32)⟩ : Dg) (l.take k)).a, w32 (tied (⟨(35 : UInt32), (0 : UInt32), (0 : UInt32), (0 : UInt32)⟩ : Dg) (l.take k)).b, w32 (tied (⟨(35 : UInt32), (0 : UInt32), (0 : UInt32), (0 : UInt32)⟩ : Dg) (l.take k)).c, w32 (tied (⟨(35 : UInt32), (0 : UInt32), (0 : UInt32), (0 : UInt32)⟩ : Dg) (l.take k)).d]) ∧ (SlT DG 0 (w0.heap.size + 1) (l) x1 wz) ∧ (k ≤ l.length)) ?_ ?_
 exact ⟨_, 0, rfl, N4, D4, s0_4, s2_4, s3_4, s4_4, E4, B2_4, B3_4, X1_4, Nat.zero_le _⟩
 rintro mz a5 wd5 ⟨k, rfl, N5, D5, s0_5, s2_5, s3_5, s4_5, E5, B2_5, B3_5, X1_5, hk⟩
 refine wp_seq ?_
 refine wp_seq ?_
 refine Rl [] [(6, Pr.ex (i64 (k : Int))), (7, Pr.ex (x1)), (8, Pr.ex (i64 (l.length : Int))), (9, Pr.ex (Value.bool (decide ((k : Int) < (l.length : Int)))))] 4 N5 D5 ?_ ?_
 refine Ac ?_ (Ac ?_ (Ac ?_ (Ac ?_ (Az _))))
 exact Am s4_5 rfl fun _ => rfl
 exact Am s0_5 rfl fun _ => rfl
 exact Ap fun aq wq _ hO hR hT => does_len (T := DG) (xs := l) sli_27 (SlT.at (hT 7 rfl rfl) (X1_5.ext' hR)) eR
 exact Ap fun aq wq _ hO hR hT => does_lss (a := (k : Int)) (b := (l.length : Int)) (hT 6 rfl rfl) (hT 8 rfl rfl) eR
 intro a6 wd6 N6 D6 hO hR hA hU
 obtain ⟨_, _, _, t9, _⟩ := hA
 have E6 := E5.trans hR
 have s0_6 := oT hO s0_5 rfl
 have s2_6 := oT hO s2_5 rfl
 have s3_6 := oT hO s3_5 rfl
 have s4_6 := oT hO s4_5 rfl
 have B2_6 := B2_5.ext' hR
 have B3_6 := B3_5.ext' hR
 have X1_6 := X1_5.ext' hR
 have s9_6 : get a6 9 = Value.bool (decide ((k : Int) < (l.length : Int))) := t9
 clear E5 N5 D5 s0_5 s2_5 s3_5 s4_5 B2_5 B3_5 X1_5
 refine tail_nil ?_
 refine wp_if (B := decide ((k : Int) < (l.length : Int))) s9_6 (fun hc0 => ?_) (fun hc0 => ?_)
 have hc0 := of_decide_eq_true hc0
 obtain ⟨y, hy⟩ := get_of_lt (l := l) (k := k) (by omega)
 refine wp_skip ?_
 refine wp_seq ?_
 refine wp_block ?_
 refine Ra [] [(12, Pr.ex (Dg.val (tied (⟨(35 : UInt32), (0 : UInt32), (0 : UInt32), (0 : UInt32)⟩ : Dg) (l.take k)))), (13, Pr.ex (x1)), (14, Pr.ex (i64 (k : Int))), (15, Pr.pt' 0 (w0.heap.size + 1) [w32 (y).a, w32 (y).b, w32 (y).c, w32 (y).d]), (16, Pr.ex (Dg.val (y))), (17, Pr.ex (Dg.val (pair (tied (⟨(35 : UInt32), (0 : UInt32), (0 : UInt32), (0 : UInt32)⟩ : Dg) (l.take k)) y)))] 6 mixed N6 D6 ?_ ?_
 refine Ac ?_ (Ac ?_ (Ac ?_ (Ac ?_ (Ac ?_ (Ac ?_ (Az _))))))
 exact Ad fun aq wq _ hO hR hT => does_loadD (o := 0) (n := 4) (mid := [w32 (tied (⟨(35 : UInt32), (0 : UInt32), (0 : UInt32), (0 : UInt32)⟩ : Dg) (l.take k)).a, w32 (tied (⟨(35 : UInt32), (0 : UInt32), (0 : UInt32), (0 : UInt32)⟩ : Dg) (l.take k)).b, w32 (tied (⟨(35 : UInt32), (0 : UInt32), (0 : UInt32), (0 : UInt32)⟩ : Dg) (l.take k)).c, w32 (tied (⟨(35 : UInt32), (0 : UInt32), (0 : UInt32), (0 : UInt32)⟩ : Dg) (l.take k)).d]) (oT hO s3_6 rfl) (B3_6.ext' hR) rfl rfl (nB rfl) row_24 rfl eR
 exact Am s0_6 rfl fun _ => rfl
 exact Am s4_6 rfl fun _ => rfl
 exact Ad fun aq wq _ hO hR hT => does_indexSl (T := DG) (xs := l) (i := (k : Int)) (X := y) sli_27 rfl (SlT.at (hT 13 rfl rfl) (X1_6.ext' hR)) (hT 14 rfl rfl) (by omega) hy (fun v h => ⟨Ext.refl _, h⟩)
 exact Ad fun aq wq _ hO hR hT => does_loadP (cs := [w32 (y).a, w32 (y).b, w32 (y).c, w32 (y).d]) (hT 15 rfl rfl) row_24 rfl eR
 exact Ad fun aq wq _ hO hR hT => does_ret (vs := #[Dg.val (tied (⟨(35 : UInt32), (0 : UInt32), (0 : UInt32), (0 : UInt32)⟩ : Dg) (l.take k)), Dg.val (y)]) call_23 (args2 (hT 12 rfl rfl) (hT 16 rfl rfl)) rfl ((pairR (tied (⟨(35 : UInt32), (0 : UInt32), (0 : UInt32), (0 : UInt32)⟩ : Dg) (l.take k)) (y) wq).mono fun v w2 h => ⟨h.2, h.1⟩)
 intro a7 wd7 N7 D7 hO hR hA hU
 obtain ⟨_, _, _, _, _, t17, _⟩ := hA
 have E7 := E6.trans hR
 have s0_7 := oT hO s0_6 rfl
 have s2_7 := oT hO s2_6 rfl
 have s3_7 := oT hO s3_6 rfl
 have s4_7 := oT hO s4_6 rfl
 have B2_7 := B2_6.ext' hR
 have B3_7 := B3_6.ext' hR
 have X1_7 := X1_6.ext' hR
 have s17_7 : get a7 17 = Dg.val (pair (tied (⟨(35 : UInt32), (0 : UInt32), (0 : UInt32), (0 : UInt32)⟩ : Dg) (l.take k)) y) := t17
 clear E6 N6 D6 s0_6 s2_6 s3_6 s4_6 s9_6 B2_6 B3_6 X1_6
 refine tail_none rfl rfl (does_storeD (o := 0) (n := 4) (cs' := [w32 (pair (tied (⟨(35 : UInt32), (0 : UInt32), (0 : UInt32), (0 : UInt32)⟩ : Dg) (l.take k)) y).a, w32 (pair (tied (⟨(35 : UInt32), (0 : UInt32), (0 : UInt32), (0 : UInt32)⟩ : Dg) (l.take k)) y).b, w32 (pair (tied (⟨(35 : UInt32), (0 : UInt32), (0 : UInt32), (0 : UInt32)⟩ : Dg) (l.take k)) y).c, w32 (pair (tied (⟨(35 : UInt32), (0 : UInt32), (0 : UInt32), (0 : UInt32)⟩ : Dg) (l.take k)) y).d]) (V := Dg.val (pair (tied (⟨(35 : UInt32), (0 : UInt32), (0 : UInt32), (0 : UInt32)⟩ : Dg) (l.take k)) y)) s3_7 s17_7 B3_7 (nB rfl) rfl siz_24 rfl rfl (fun wd8 hX hz B3_8 => ?_))
 have E8 := E7.since hX (fun k e => e ▸ fr_b3)
 have B2_8 := B2_7.ext hX ne_b2_b3
 have X1_8 := SlT.over X1_7 hX nb_x1_b3
 clear hX hz E7 B2_7 B3_7 X1_7
 refine tail_nil ?_
 refine Rl [] [(10, Pr.ex (i64 (k : Int))), (11, Pr.ex (i64 ((k + 1 : Nat) : Int)))] 2 N7 D7 ?_ ?_
 refine Ac ?_ (Ac ?_ (Az _))
 exact Am s4_7 rfl fun _ => rfl
 exact Ap fun aq wq _ hO hR hT => does_add (a := (k : Int)) (b := ((1 : Nat) : Int)) (r := ((k + 1 : Nat) : Int)) (hT 10 rfl rfl) rfl (by omega) (by omega) (by omega) eR
 intro a9 wd9 N9 D9 hO hR hA hU
 obtain ⟨_, t11, _⟩ := hA
 have E9 := E8.trans hR
 have s0_9 := oT hO s0_7 rfl
 have s2_9 := oT hO s2_7 rfl
 have s3_9 := oT hO s3_7 rfl
 have s4_9 := oT hO s4_7 rfl
 have B2_9 := B2_8.ext' hR
 have B3_9 := B3_8.ext' hR
 have X1_9 := X1_8.ext' hR
 have s11_9 : get a9 11 = i64 ((k + 1 : Nat) : Int) := t11
 clear E8 N7 D7 s0_7 s2_7 s3_7 s4_7 s17_7 B2_8 B3_8 X1_8
 refine tail_put rfl rfl N9 D9 (by decide) (does_assign (V := i64 ((k + 1 : Nat) : Int)) s11_9 (fun a10 N10 D10 hv hO => ?_))
 have s4_10 := hv
 have s0_10 := oT hO s0_9 rfl
 have s2_10 := oT hO s2_9 rfl
 have s3_10 := oT hO s3_9 rfl
 clear hO hv N9 D9 s0_9 s2_9 s3_9 s11_9 s4_9
 refine tail_nil ?_
 exact ⟨_, by omega, k + 1, rfl, N10, D10, s0_10, s2_10, s3_10, s4_10, E9, B2_9, (by have h := B3_9; rw [← tied_take _ hy] at h; exact h), X1_9, by omega⟩
 have hc0 := of_decide_eq_false hc0
 have hkl : l.take k = l := List.take_of_length_le (by omega)
 refine wp_exit ?_
 refine wp_seq ?_
 refine Rl [] [(18, Pr.ex (Dg.val (tied (⟨(35 : UInt32), (0 : UInt32), (0 : UInt32), (0 : UInt32)⟩ : Dg) (l.take k))))] 1 N6 D6 ?_ ?_
 refine Ac ?_ (Az _)
 exact Ap fun aq wq _ hO hR hT => does_loadD (o := 0) (n := 4) (mid := [w32 (tied (⟨(35 : UInt32), (0 : UInt32), (0 : UInt32), (0 : UInt32)⟩ : Dg) (l.take k)).a, w32 (tied (⟨(35 : UInt32), (0 : UInt32), (0 : UInt32), (0 : UInt32)⟩ : Dg) (l.take k)).b, w32 (tied (⟨(35 : UInt32), (0 : UInt32), (0 : UInt32), (0 : UInt32)⟩ : Dg) (l.take k)).c, w32 (tied (⟨(35 : UInt32), (0 : UInt32), (0 : UInt32), (0 : UInt32)⟩ : Dg) (l.take k)).d]) (oT hO s3_6 rfl) (B3_6.ext' hR) rfl rfl (nB rfl) row_24 rfl eR
 intro a11 wd11 N11 D11 hO hR hA hU
 obtain ⟨t18, _⟩ := hA
 have E11 := E6.trans hR
 have s2_11 := oT hO s2_6 rfl
 have B2_11 := B2_6.ext' hR
 have B3_11 := B3_6.ext' hR
 have X1_11 := X1_6.ext' hR
 have s18_11 : get a11 18 = Dg.val (tied (⟨(35 : UInt32), (0 : UInt32), (0 : UInt32), (0 : UInt32)⟩ : Dg) (l.take k)) := t18
 clear E6 N6 D6 s0_6 s2_6 s3_6 s4_6 s9_6 B2_6 B3_6 X1_6
 refine tail_none rfl rfl (does_storeD (o := 0) (n := 4) (cs' := [w32 (tied (⟨(35 : UInt32), (0 : UInt32), (0 : UInt32), (0 : UInt32)⟩ : Dg) (l.take k)).a, w32 (tied (⟨(35 : UInt32), (0 : UInt32), (0 : UInt32), (0 : UInt32)⟩ : Dg) (l.take k)).b, w32 (tied (⟨(35 : UInt32), (0 : UInt32), (0 : UInt32), (0 : UInt32)⟩ : Dg) (l.take k)).c, w32 (tied (⟨(35 : UInt32), (0 : UInt32), (0 : UInt32), (0 : UInt32)⟩ : Dg) (l.take k)).d]) (V := Dg.val (tied (⟨(35 : UInt32), (0 : UInt32), (0 : UInt32), (0 : UInt32)⟩ : Dg) (l.take k))) s2_11 s18_11 B2_11 (nB rfl) rfl siz_24 rfl rfl (fun wd12 hX hz B2_12 => ?_))
 have E12 := E11.since hX (fun k e => e ▸ fr_b2)
 have B3_12 := B3_11.ext hX ne_b2_b3.symm
 have X1_12 := SlT.over X1_11 hX nb_x1_b2
 clear hX hz E11 B2_11 B3_11 X1_11
 refine tail_nil ?_
 refine wp_ret ?_
 refine res_one (V := Dg.val (tied (⟨(35 : UInt32), (0 : UInt32), (0 : UInt32), (0 : UInt32)⟩ : Dg) (l.take k))) rfl D11 (ResIs.cell s2_11 B2_12 row_24 rfl rfl) ?_
 exact ⟨by show Dg.val _ = Dg.val _; rw [hkl], E12⟩

end Go.Proofs.YtmmghpbncejfiaaDoor
