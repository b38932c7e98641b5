/- The walks of functions of the program: printed. -/
import Derived.Test.YtaeohnkfmachfaaDoorKB
import Derived.Test.YtaeohnkfmachfaaDoorG65
import Derived.Test.YtaeohnkfmachfaaDoorG70
import Derived.Test.YtaeohnkfmachfaaDoorG107
import Derived.Test.YtaeohnkfmachfaaDoorG108
import Derived.Test.YtaeohnkfmachfaaDoorF0
set_option maxRecDepth 100000
namespace Go.Proofs.YtaeohnkfmachfaaDoor
open Go Go.RowKit Sk Sd
theorem call_7 : Callable Tryd.prog 7 := ⟨_, Tryd.func7, by kernel_rfl, rfl⟩
theorem fld_40_3 : FieldIs Tryd.prog 40 3 12 := ⟨_, _, 2, Tryd.underlying40, rfl, rfl, by kernel_rfl⟩
theorem fld_40_4 : FieldIs Tryd.prog 40 4 15 := ⟨_, _, 2, Tryd.underlying40, rfl, rfl, by kernel_rfl⟩
theorem fld_40_0 : FieldIs Tryd.prog 40 0 0 := ⟨_, _, 3, Tryd.underlying40, rfl, rfl, by kernel_rfl⟩
theorem fld_40_1 : FieldIs Tryd.prog 40 1 4 := ⟨_, _, 3, Tryd.underlying40, rfl, rfl, by kernel_rfl⟩
theorem fld_40_2 : FieldIs Tryd.prog 40 2 8 := ⟨_, _, 3, Tryd.underlying40, rfl, rfl, by kernel_rfl⟩
theorem call_15 : Callable Tryd.prog 15 := ⟨_, Tryd.func15, by kernel_rfl, rfl⟩
theorem keysClash (pub m n : Dg) (i : Int) (one path : List Dg) (j : Int) (two qath : List Dg) (x1 x2 x3 x4 : Value) (w0 : World) (hL : Laid w0) (hx1 : SlT DG 0 0 one x1 w0) (hx2 : SlT DG 0 0 path x2 w0) (hx3 : SlT DG 0 0 two x3 w0) (hx4 : SlT DG 0 0 qath x4 w0) :
    Gives Tryd.prog 5 #[Value.agg #[w32 (pub).a, w32 (pub).b, w32 (pub).c, w32 (pub).d, w32 (m).a, w32 (m).b, w32 (m).c, w32 (m).d, w32 (n).a, w32 (n).b, w32 (n).c, w32 (n).d, i64 (i), x1, x2, i64 (j), x3, x4]] w0 (Pr.ex (Value.bool true)) := by
 refine enter (N := 109) Tryd.func5 rfl rfl ?_
 intro a0 N0 D0 hA
 have s0_0 : get a0 0 = Value.agg #[w32 (pub).a, w32 (pub).b, w32 (pub).c, w32 (pub).d, w32 (m).a, w32 (m).b, w32 (m).c, w32 (m).d, w32 (n).a, w32 (n).b, w32 (n).c, w32 (n).d, i64 (i), x1, x2, i64 (j), x3, x4] := hA 0 _ rfl
 clear hA
 have E0 : Ext w0 w0 := Ext.refl w0
 have X1_0 := hx1.close
 have X2_0 := hx2.close
 have X3_0 := hx3.close
 have X4_0 := hx4.close
 refine wp_seq ?_
 refine Rl [1] [(1, Pr.box' w0.heap.size 40 [w32 (pub).a, w32 (pub).b, w32 (pub).c, w32 (pub).d, w32 (m).a, w32 (m).b, w32 (m).c, w32 (m).d, w32 (n).a, w32 (n).b, w32 (n).c, w32 (n).d, i64 (i), x1, x2, i64 (j), x3, x4]), (2, Pr.ex (Value.bool (false)))] 2 N0 D0 ?_ ?_
 refine Ac ?_ (Ac ?_ (Az _))
 refine Ask.fresh rfl rfl ?_
 intro aq wq hNq hO hR hT
 exact does_box (V := Value.agg #[w32 (pub).a, w32 (pub).b, w32 (pub).c, w32 (pub).d, w32 (m).a, w32 (m).b, w32 (m).c, w32 (m).d, w32 (n).a, w32 (n).b, w32 (n).c, w32 (n).d, i64 (i), x1, x2, i64 (j), x3, x4]) (oT hO s0_0 rfl) (fun b w2 he hlo hb => ⟨he, ⟨b, rfl, Nat.le_trans hR.size' hlo, hb⟩, ⟨b, rfl, hlo, hb.lt⟩⟩)
 exact Ap fun aq wq _ hO hR hT => does_assign (V := Value.bool (false)) rfl eR
 intro a1 wd1 N1 D1 hO hR hA hU
 obtain ⟨t1, _, _⟩ := hA
 have E1 := E0.trans hR
 have X1_1 := X1_0.ext' hR
 have X2_1 := X2_0.ext' hR
 have X3_1 := X3_0.ext' hR
 have X4_1 := X4_0.ext' hR
 obtain ⟨b1, s1_1, lo_b1, B1_1⟩ := t1
 have nb_x1_b1 := SlT.old X1_0 lo_b1
 have nb_x2_b1 := SlT.old X2_0 lo_b1
 have nb_x3_b1 := SlT.old X3_0 lo_b1
 have nb_x4_b1 := SlT.old X4_0 lo_b1
 have fr_b1 : w0.heap.size ≤ b1 := Nat.le_trans E0.size' lo_b1
 clear E0 N0 D0 s0_0 X1_0 X2_0 X3_0 X4_0
 refine tail_nil ?_
 refine wp_seq ?_
 refine wp_seq ?_
 refine Rl [] [(7, Pr.ex (Value.bool (true))), (8, Pr.ex (Value.bool (false)))] 2 N1 D1 ?_ ?_
 refine Ac ?_ (Ac ?_ (Az _))
 exact Ap fun aq wq _ hO hR hT => does_ret (vs := #[]) call_7 args0 rfl ((awake06 wq (hL.ext (E1.trans hR))).mono fun v w2 h => ⟨h.2, h.1⟩)
 exact Ap fun aq wq _ hO hR hT => does_not (B := true) (hT 7 rfl rfl) eR
 intro a2 wd2 N2 D2 hO hR hA hU
 obtain ⟨_, t8, _⟩ := hA
 have E2 := E1.trans hR
 have s1_2 := oT hO s1_1 rfl
 have B1_2 := B1_1.ext' hR
 have X1_2 := X1_1.ext' hR
 have X2_2 := X2_1.ext' hR
 have X3_2 := X3_1.ext' hR
 have X4_2 := X4_1.ext' hR
 have s8_2 : get a2 8 = Value.bool (false) := t8
 clear E1 N1 D1 s1_1 B1_1 X1_1 X2_1 X3_1 X4_1
 refine tail_nil ?_
 refine wp_ifF s8_2 ?_
 refine wp_skip ?_
 refine wp_seq ?_
 refine wp_seq ?_
 refine Rl [] [(9, Pr.ex (Value.pointer (some ⟨b1, 12, none⟩))), (10, Pr.ex (Value.pointer (some ⟨b1, 13, none⟩))), (11, Pr.ex (x1)), (12, Pr.ex (i64 (one.length : Int))), (13, Pr.ex (Value.bool (decide (((40 : Nat) : Int) < (one.length : Int))))), (14, Pr.ex (Value.bool (decide (((40 : Nat) : Int) < (one.length : Int))))), (15, Pr.ifb (!(decide (((40 : Nat) : Int) < (one.length : Int)))) (Pr.ex (Value.pointer (some ⟨b1, 15, none⟩)))), (16, Pr.ifb (!(decide (((40 : Nat) : Int) < (one.length : Int)))) (Pr.ex (Value.pointer (some ⟨b1, 16, none⟩)))), (17, Pr.ifb (!(decide (((40 : Nat) : Int) < (one.length : Int)))) (Pr.ex (x3))), (18, Pr.ifb (!(decide (((40 : Nat) : Int) < (one.length : Int)))) (Pr.ex (i64 (two.length : Int)))), (19, Pr.ifb (!(decide (((40 : Nat) : Int) < (one.length : Int)))) (Pr.ex (Value.bool (decide (((40 : Nat) : Int) < (two.length : Int)))))), (20, Pr.ex (Value.bool ((decide (((40 : Nat) : Int) < (one.length : Int))) || (decide (((40 : Nat) : Int) < (two.length : Int)))))), (21, Pr.ex (Value.bool ((decide (((40 : Nat) : Int) < (one.length : Int))) || (decide (((40 : Nat) : Int) < (two.length : Int)))))), (22, Pr.ifb (!((decide (((40 : Nat) : Int) < (one.length : Int))) || (decide (((40 : Nat) : Int) < (two.length : Int))))) (Pr.ex (Value.pointer (some ⟨b1, 12, none⟩)))), (23, Pr.ifb (!((decide (((40 : Nat) : Int) < (one.length : Int))) || (decide (((40 : Nat) : Int) < (two.length : Int))))) (Pr.ex (Value.pointer (some ⟨b1, 14, none⟩)))), (24, Pr.ifb (!((decide (((40 : Nat) : Int) < (one.length : Int))) || (decide (((40 : Nat) : Int) < (two.length : Int))))) (Pr.ex (x2))), (25, Pr.ifb (!((decide (((40 : Nat) : Int) < (one.length : Int))) || (decide (((40 : Nat) : Int) < (two.length : Int))))) (Pr.ex (i64 (path.length : Int)))), (26, Pr.ifb (!((decide (((40 : Nat) : Int) < (one.length : Int))) || (decide (((40 : Nat) : Int) < (two.length : Int))))) (Pr.ex (Value.bool (decide (((6 : Nat) : Int) < (path.length : Int)))))), (27, Pr.ex (Value.bool (((decide (((40 : Nat) : Int) < (one.length : Int))) || (decide (((40 : Nat) : Int) < (two.length : Int)))) || (decide (((6 : Nat) : Int) < (path.length : Int)))))), (28, Pr.ex (Value.bool (((decide (((40 : Nat) : Int) < (one.length : Int))) || (decide (((40 : Nat) : Int) < (two.length : Int)))) || (decide (((6 : Nat) : Int) < (path.length : Int)))))), (29, Pr.ifb (!(((decide (((40 : Nat) : Int) < (one.length : Int))) || (decide (((40 : Nat) : Int) < (two.length : Int)))) || (decide (((6 : Nat) : Int) < (path.length : Int))))) (Pr.ex (Value.pointer (some ⟨b1, 12, none⟩)))), (30, Pr.ifb (!(((decide (((40 : Nat) : Int) < (one.length : Int))) || (decide (((40 : Nat) : Int) < (two.length : Int)))) || (decide (((6 : Nat) : Int) < (path.length : Int))))) (Pr.ex (Value.pointer (some ⟨b1, 12, none⟩)))), (31, Pr.ifb (!(((decide (((40 : Nat) : Int) < (one.length : Int))) || (decide (((40 : Nat) : Int) < (two.length : Int)))) || (decide (((6 : Nat) : Int) < (path.length : Int))))) (Pr.ex (i64 (i)))), (32, Pr.ifb (!(((decide (((40 : Nat) : Int) < (one.length : Int))) || (decide (((40 : Nat) : Int) < (two.length : Int)))) || (decide (((6 : Nat) : Int) < (path.length : Int))))) (Pr.ex (Value.pointer (some ⟨b1, 15, none⟩)))), (33, Pr.ifb (!(((decide (((40 : Nat) : Int) < (one.length : Int))) || (decide (((40 : Nat) : Int) < (two.length : Int)))) || (decide (((6 : Nat) : Int) < (path.length : Int))))) (Pr.ex (Value.pointer (some ⟨b1, 15, none⟩)))), (34, Pr.ifb (!(((decide (((40 : Nat) : Int) < (one.length : Int))) || (decide (((40 : Nat) : Int) < (two.length : Int)))) || (decide (((6 : Nat) : Int) < (path.length : Int))))) (Pr.ex (i64 (j)))), (35, Pr.ifb (!(((decide (((40 : Nat) : Int) < (one.length : Int))) || (decide (((40 : Nat) : Int) < (two.length : Int)))) || (decide (((6 : Nat) : Int) < (path.length : Int))))) (Pr.ex (Value.bool (!decide (i = j))))), (36, Pr.ex (Value.bool ((((decide (((40 : Nat) : Int) < (one.length : Int))) || (decide (((40 : Nat) : Int) < (two.length : Int)))) || (decide (((6 : Nat) : Int) < (path.length : Int)))) || (!decide (i = j))))), (37, Pr.ex (Value.bool ((((decide (((40 : Nat) : Int) < (one.length : Int))) || (decide (((40 : Nat) : Int) < (two.length : Int)))) || (decide (((6 : Nat) : Int) < (path.length : Int)))) || (!decide (i = j))))), (38, Pr.ifb (!((((decide (((40 : Nat) : Int) < (one.length : Int))) || (decide (((40 : Nat) : Int) < (two.length : Int)))) || (decide (((6 : Nat) : Int) < (path.length : Int)))) || (!decide (i = j)))) (Pr.ex (Value.pointer (some ⟨b1, 12, none⟩)))), (39, Pr.ifb (!((((decide (((40 : Nat) : Int) < (one.length : Int))) || (decide (((40 : Nat) : Int) < (two.length : Int)))) || (decide (((6 : Nat) : Int) < (path.length : Int)))) || (!decide (i = j)))) (Pr.ex (Value.pointer (some ⟨b1, 14, none⟩)))), (40, Pr.ifb (!((((decide (((40 : Nat) : Int) < (one.length : Int))) || (decide (((40 : Nat) : Int) < (two.length : Int)))) || (decide (((6 : Nat) : Int) < (path.length : Int)))) || (!decide (i = j)))) (Pr.ex (x2))), (41, Pr.ifb (!((((decide (((40 : Nat) : Int) < (one.length : Int))) || (decide (((40 : Nat) : Int) < (two.length : Int)))) || (decide (((6 : Nat) : Int) < (path.length : Int)))) || (!decide (i = j)))) (Pr.ex (i64 (path.length : Int)))), (42, Pr.ifb (!((((decide (((40 : Nat) : Int) < (one.length : Int))) || (decide (((40 : Nat) : Int) < (two.length : Int)))) || (decide (((6 : Nat) : Int) < (path.length : Int)))) || (!decide (i = j)))) (Pr.ex (Value.pointer (some ⟨b1, 15, none⟩)))), (43, Pr.ifb (!((((decide (((40 : Nat) : Int) < (one.length : Int))) || (decide (((40 : Nat) : Int) < (two.length : Int)))) || (decide (((6 : Nat) : Int) < (path.length : Int)))) || (!decide (i = j)))) (Pr.ex (Value.pointer (some ⟨b1, 17, none⟩)))), (44, Pr.ifb (!((((decide (((40 : Nat) : Int) < (one.length : Int))) || (decide (((40 : Nat) : Int) < (two.length : Int)))) || (decide (((6 : Nat) : Int) < (path.length : Int)))) || (!decide (i = j)))) (Pr.ex (x4))), (45, Pr.ifb (!((((decide (((40 : Nat) : Int) < (one.length : Int))) || (decide (((40 : Nat) : Int) < (two.length : Int)))) || (decide (((6 : Nat) : Int) < (path.length : Int)))) || (!decide (i = j)))) (Pr.ex (i64 (qath.length : Int)))), (46, Pr.ifb (!((((decide (((40 : Nat) : Int) < (one.length : Int))) || (decide (((40 : Nat) : Int) < (two.length : Int)))) || (decide (((6 : Nat) : Int) < (path.length : Int)))) || (!decide (i = j)))) (Pr.ex (Value.bool (!decide ((path.length : Int) = (qath.length : Int)))))), (47, Pr.ex (Value.bool (((((decide (((40 : Nat) : Int) < (one.length : Int))) || (decide (((40 : Nat) : Int) < (two.length : Int)))) || (decide (((6 : Nat) : Int) < (path.length : Int)))) || (!decide (i = j))) || (!decide ((path.length : Int) = (qath.length : Int)))))), (48, Pr.ex (Value.bool (((((decide (((40 : Nat) : Int) < (one.length : Int))) || (decide (((40 : Nat) : Int) < (two.length : Int)))) || (decide (((6 : Nat) : Int) < (path.length : Int)))) || (!decide (i = j))) || (!decide ((path.length : Int) = (qath.length : Int)))))), (49, Pr.ifb (!(((((decide (((40 : Nat) : Int) < (one.length : Int))) || (decide (((40 : Nat) : Int) < (two.length : Int)))) || (decide (((6 : Nat) : Int) < (path.length : Int)))) || (!decide (i = j))) || (!decide ((path.length : Int) = (qath.length : Int))))) (Pr.ex (Value.pointer (some ⟨b1, 0, none⟩)))), (50, Pr.ifb (!(((((decide (((40 : Nat) : Int) < (one.length : Int))) || (decide (((40 : Nat) : Int) < (two.length : Int)))) || (decide (((6 : Nat) : Int) < (path.length : Int)))) || (!decide (i = j))) || (!decide ((path.length : Int) = (qath.length : Int))))) (Pr.ex (Dg.val (pub)))), (51, Pr.ifb (!(((((decide (((40 : Nat) : Int) < (one.length : Int))) || (decide (((40 : Nat) : Int) < (two.length : Int)))) || (decide (((6 : Nat) : Int) < (path.length : Int)))) || (!decide (i = j))) || (!decide ((path.length : Int) = (qath.length : Int))))) (Pr.ex (Value.pointer (some ⟨b1, 4, none⟩)))), (52, Pr.ifb (!(((((decide (((40 : Nat) : Int) < (one.length : Int))) || (decide (((40 : Nat) : Int) < (two.length : Int)))) || (decide (((6 : Nat) : Int) < (path.length : Int)))) || (!decide (i = j))) || (!decide ((path.length : Int) = (qath.length : Int))))) (Pr.ex (Dg.val (m)))), (53, Pr.ifb (!(((((decide (((40 : Nat) : Int) < (one.length : Int))) || (decide (((40 : Nat) : Int) < (two.length : Int)))) || (decide (((6 : Nat) : Int) < (path.length : Int)))) || (!decide (i = j))) || (!decide ((path.length : Int) = (qath.length : Int))))) (Pr.ex (Value.pointer (some ⟨b1, 12, none⟩)))), (54, Pr.ifb (!(((((decide (((40 : Nat) : Int) < (one.length : Int))) || (decide (((40 : Nat) : Int) < (two.length : Int)))) || (decide (((6 : Nat) : Int) < (path.length : Int)))) || (!decide (i = j))) || (!decide ((path.length : Int) = (qath.length : Int))))) (Pr.ex (Value.agg #[i64 (i), x1, x2]))), (55, Pr.ifb (!(((((decide (((40 : Nat) : Int) < (one.length : Int))) || (decide (((40 : Nat) : Int) < (two.length : Int)))) || (decide (((6 : Nat) : Int) < (path.length : Int)))) || (!decide (i = j))) || (!decide ((path.length : Int) = (qath.length : Int))))) (Pr.ex (Value.bool (keyCheck pub m (i) one path)))), (56, Pr.ifb (!(((((decide (((40 : Nat) : Int) < (one.length : Int))) || (decide (((40 : Nat) : Int) < (two.length : Int)))) || (decide (((6 : Nat) : Int) < (path.length : Int)))) || (!decide (i = j))) || (!decide ((path.length : Int) = (qath.length : Int))))) (Pr.ex (Value.bool (!(keyCheck pub m (i) one path))))), (57, Pr.ex (Value.bool ((((((decide (((40 : Nat) : Int) < (one.length : Int))) || (decide (((40 : Nat) : Int) < (two.length : Int)))) || (decide (((6 : Nat) : Int) < (path.length : Int)))) || (!decide (i = j))) || (!decide ((path.length : Int) = (qath.length : Int)))) || (!(keyCheck pub m (i) one path))))), (58, Pr.ex (Value.bool ((((((decide (((40 : Nat) : Int) < (one.length : Int))) || (decide (((40 : Nat) : Int) < (two.length : Int)))) || (decide (((6 : Nat) : Int) < (path.length : Int)))) || (!decide (i = j))) || (!decide ((path.length : Int) = (qath.length : Int)))) || (!(keyCheck pub m (i) one path))))), (59, Pr.ifb (!((((((decide (((40 : Nat) : Int) < (one.length : Int))) || (decide (((40 : Nat) : Int) < (two.length : Int)))) || (decide (((6 : Nat) : Int) < (path.length : Int)))) || (!decide (i = j))) || (!decide ((path.length : Int) = (qath.length : Int)))) || (!(keyCheck pub m (i) one path)))) (Pr.ex (Value.pointer (some ⟨b1, 0, none⟩)))), (60, Pr.ifb (!((((((decide (((40 : Nat) : Int) < (one.length : Int))) || (decide (((40 : Nat) : Int) < (two.length : Int)))) || (decide (((6 : Nat) : Int) < (path.length : Int)))) || (!decide (i = j))) || (!decide ((path.length : Int) = (qath.length : Int)))) || (!(keyCheck pub m (i) one path)))) (Pr.ex (Dg.val (pub)))), (61, Pr.ifb (!((((((decide (((40 : Nat) : Int) < (one.length : Int))) || (decide (((40 : Nat) : Int) < (two.length : Int)))) || (decide (((6 : Nat) : Int) < (path.length : Int)))) || (!decide (i = j))) || (!decide ((path.length : Int) = (qath.length : Int)))) || (!(keyCheck pub m (i) one path)))) (Pr.ex (Value.pointer (some ⟨b1, 8, none⟩)))), (62, Pr.ifb (!((((((decide (((40 : Nat) : Int) < (one.length : Int))) || (decide (((40 : Nat) : Int) < (two.length : Int)))) || (decide (((6 : Nat) : Int) < (path.length : Int)))) || (!decide (i = j))) || (!decide ((path.length : Int) = (qath.length : Int)))) || (!(keyCheck pub m (i) one path)))) (Pr.ex (Dg.val (n)))), (63, Pr.ifb (!((((((decide (((40 : Nat) : Int) < (one.length : Int))) || (decide (((40 : Nat) : Int) < (two.length : Int)))) || (decide (((6 : Nat) : Int) < (path.length : Int)))) || (!decide (i = j))) || (!decide ((path.length : Int) = (qath.length : Int)))) || (!(keyCheck pub m (i) one path)))) (Pr.ex (Value.pointer (some ⟨b1, 15, none⟩)))), (64, Pr.ifb (!((((((decide (((40 : Nat) : Int) < (one.length : Int))) || (decide (((40 : Nat) : Int) < (two.length : Int)))) || (decide (((6 : Nat) : Int) < (path.length : Int)))) || (!decide (i = j))) || (!decide ((path.length : Int) = (qath.length : Int)))) || (!(keyCheck pub m (i) one path)))) (Pr.ex (Value.agg #[i64 (j), x3, x4]))), (65, Pr.ifb (!((((((decide (((40 : Nat) : Int) < (one.length : Int))) || (decide (((40 : Nat) : Int) < (two.length : Int)))) || (decide (((6 : Nat) : Int) < (path.length : Int)))) || (!decide (i = j))) || (!decide ((path.length : Int) = (qath.length : Int)))) || (!(keyCheck pub m (i) one path)))) (Pr.ex (Value.bool (keyCheck pub n (j) two qath)))), (66, Pr.ifb (!((((((decide (((40 : Nat) : Int) < (one.length : Int))) || (decide (((40 : Nat) : Int) < (two.length : Int)))) || (decide (((6 : Nat) : Int) < (path.length : Int)))) || (!decide (i = j))) || (!decide ((path.length : Int) = (qath.length : Int)))) || (!(keyCheck pub m (i) one path)))) (Pr.ex (Value.bool (!(keyCheck pub n (j) two qath))))), (67, Pr.ex (Value.bool (((((((decide (((40 : Nat) : Int) < (one.length : Int))) || (decide (((40 : Nat) : Int) < (two.length : Int)))) || (decide (((6 : Nat) : Int) < (path.length : Int)))) || (!decide (i = j))) || (!decide ((path.length : Int) = (qath.length : Int)))) || (!(keyCheck pub m (i) one path))) || (!(keyCheck pub n (j) two qath)))))] 59 N2 D2 ?_ ?_
 refine Ac ?_ (Ac ?_ (Ac ?_ (Ac ?_ (Ac ?_ (Ac ?_ (Ac ?_ (Ac ?_ (Ac ?_ (Ac ?_ (Ac ?_ (Ac ?_ (Ac ?_ (Ac ?_ (Ac ?_ (Ac ?_ (Ac ?_ (Ac ?_ (Ac ?_ (Ac ?_ (Ac ?_ (Ac ?_ (Ac ?_ (Ac ?_ (Ac ?_ (Ac ?_ (Ac ?_ (Ac ?_ (Ac ?_ (Ac ?_ (Ac ?_ (Ac ?_ (Ac ?_ (Ac ?_ (Ac ?_ (Ac ?_ (Ac ?_ (Ac ?_ (Ac ?_ (Ac ?_ (Ac ?_ (Ac ?_ (Ac ?_ (Ac ?_ (Ac ?_ (Ac ?_ (Ac ?_ (Ac ?_ (Ac ?_ (Ac ?_ (Ac ?_ (Ac ?_ (Ac ?_ (Ac ?_ (Ac ?_ (Ac ?_ (Ac ?_ (Ac ?_ (Ac ?_ (Az _)))))))))))))))))))))))))))))))))))))))))))))))))))))))))))
 exact Ap fun aq wq _ hO hR hT => does_field (o' := 12) fld_40_3 (oT hO s1_2 rfl) rfl eR
 exact Ap fun aq wq _ hO hR hT => does_field (o' := 13) fld_30_1 (hT 9 rfl rfl) rfl eR
 exact Ap fun aq wq _ hO hR hT => does_loadD1 (o := 13) (V := x1) (hT 10 rfl rfl) (B1_2.ext' hR) rfl one_28 eR
 exact Ap fun aq wq _ hO hR hT => does_len (T := DG) (xs := one) sli_28 (SlT.at (hT 11 rfl rfl) (X1_2.ext' hR)) eR
 exact Ap fun aq wq _ hO hR hT => does_gtr (a := (one.length : Int)) (b := ((40 : Nat) : Int)) (hT 12 rfl rfl) rfl eR
 exact Ap fun aq wq _ hO hR hT => does_move (V := Value.bool (decide (((40 : Nat) : Int) < (one.length : Int)))) (hT 13 rfl rfl) eR
 refine Ask.guarded (B := decide (((40 : Nat) : Int) < (one.length : Int))) (want := false) (t := 14) rfl rfl rfl rfl (by decide) (fun aq wq hO hR hT => hT 14 rfl rfl) (fun hG aq wq hNq hO hR hT => ?_) (fun hno _ => fun hc => absurd (bn hc) hno)
 replace hG := nb hG
 exact does_field (o' := 15) fld_40_4 (oT hO s1_2 rfl) rfl ⟨Ext.refl _, fun _ => rfl⟩
 refine Ask.guarded (B := decide (((40 : Nat) : Int) < (one.length : Int))) (want := false) (t := 14) rfl rfl rfl rfl (by decide) (fun aq wq hO hR hT => hT 14 rfl rfl) (fun hG aq wq hNq hO hR hT => ?_) (fun hno _ => fun hc => absurd (bn hc) hno)
 replace hG := nb hG
 exact does_field (o' := 16) fld_30_1 (hT 15 rfl rfl hG) rfl ⟨Ext.refl _, fun _ => rfl⟩
 refine Ask.guarded (B := decide (((40 : Nat) : Int) < (one.length : Int))) (want := false) (t := 14) rfl rfl rfl rfl (by decide) (fun aq wq hO hR hT => hT 14 rfl rfl) (fun hG aq wq hNq hO hR hT => ?_) (fun hno _ => fun hc => absurd (bn hc) hno)
 replace hG := nb hG
 exact does_loadD1 (o := 16) (V := x3) (hT 16 rfl rfl hG) (B1_2.ext' hR) rfl one_28 ⟨Ext.refl _, fun _ => rfl⟩
 refine Ask.guarded (B := decide (((40 : Nat) : Int) < (one.length : Int))) (want := false) (t := 14) rfl rfl rfl rfl (by decide) (fun aq wq hO hR hT => hT 14 rfl rfl) (fun hG aq wq hNq hO hR hT => ?_) (fun hno _ => fun hc => absurd (bn hc) hno)
 replace hG := nb hG
 exact does_len (T := DG) (xs := two) sli_28 (SlT.at (hT 17 rfl rfl hG) (X3_2.ext' hR)) ⟨Ext.refl _, fun _ => rfl⟩
 refine Ask.guarded (B := decide (((40 : Nat) : Int) < (one.length : Int))) (want := false) (t := 14) rfl rfl rfl rfl (by decide) (fun aq wq hO hR hT => hT 14 rfl rfl) (fun hG aq wq hNq hO hR hT => ?_) (fun hno _ => fun hc => absurd (bn hc) hno)
 replace hG := nb hG
 exact does_gtr (a := (two.length : Int)) (b := ((40 : Nat) : Int)) (hT 18 rfl rfl hG) rfl ⟨Ext.refl _, fun _ => rfl⟩
 exact Ap fun aq wq _ hO hR hT => does_or (B := decide (((40 : Nat) : Int) < (one.length : Int))) (X := decide (((40 : Nat) : Int) < (two.length : Int))) (hT 14 rfl rfl) rfl (fun hB => (hT 19 rfl rfl (nb hB))) eR
 exact Ap fun aq wq _ hO hR hT => does_move (V := Value.bool ((decide (((40 : Nat) : Int) < (one.length : Int))) || (decide (((40 : Nat) : Int) < (two.length : Int))))) (hT 20 rfl rfl) eR
 refine Ask.guarded (B := (decide (((40 : Nat) : Int) < (one.length : Int))) || (decide (((40 : Nat) : Int) < (two.length : Int)))) (want := false) (t := 21) rfl rfl rfl rfl (by decide) (fun aq wq hO hR hT => hT 21 rfl rfl) (fun hG aq wq hNq hO hR hT => ?_) (fun hno _ => fun hc => absurd (bn hc) hno)
 replace hG := nb hG
 exact does_field (o' := 12) fld_40_3 (oT hO s1_2 rfl) rfl ⟨Ext.refl _, fun _ => rfl⟩
 refine Ask.guarded (B := (decide (((40 : Nat) : Int) < (one.length : Int))) || (decide (((40 : Nat) : Int) < (two.length : Int)))) (want := false) (t := 21) rfl rfl rfl rfl (by decide) (fun aq wq hO hR hT => hT 21 rfl rfl) (fun hG aq wq hNq hO hR hT => ?_) (fun hno _ => fun hc => absurd (bn hc) hno)
 replace hG := nb hG
 exact does_field (o' := 14) fld_30_2 (hT 22 rfl rfl hG) rfl ⟨Ext.refl _, fun _ => rfl⟩
 refine Ask.guarded (B := (decide (((40 : Nat) : Int) < (one.length : Int))) || (decide (((40 : Nat) : Int) < (two.length : Int)))) (want := false) (t := 21) rfl rfl rfl rfl (by decide) (fun aq wq hO hR hT => hT 21 rfl rfl) (fun hG aq wq hNq hO hR hT => ?_) (fun hno _ => fun hc => absurd (bn hc) hno)
 replace hG := nb hG
 exact does_loadD1 (o := 14) (V := x2) (hT 23 rfl rfl hG) (B1_2.ext' hR) rfl one_27 ⟨Ext.refl _, fun _ => rfl⟩
 refine Ask.guarded (B := (decide (((40 : Nat) : Int) < (one.length : Int))) || (decide (((40 : Nat) : Int) < (two.length : Int)))) (want := false) (t := 21) rfl rfl rfl rfl (by decide) (fun aq wq hO hR hT => hT 21 rfl rfl) (fun hG aq wq hNq hO hR hT => ?_) (fun hno _ => fun hc => absurd (bn hc) hno)
 replace hG := nb hG
 exact does_len (T := DG) (xs := path) sli_27 (SlT.at (hT 24 rfl rfl hG) (X2_2.ext' hR)) ⟨Ext.refl _, fun _ => rfl⟩
 refine Ask.guarded (B := (decide (((40 : Nat) : Int) < (one.length : Int))) || (decide (((40 : Nat) : Int) < (two.length : Int)))) (want := false) (t := 21) rfl rfl rfl rfl (by decide) (fun aq wq hO hR hT => hT 21 rfl rfl) (fun hG aq wq hNq hO hR hT => ?_) (fun hno _ => fun hc => absurd (bn hc) hno)
 replace hG := nb hG
 exact does_gtr (a := (path.length : Int)) (b := ((6 : Nat) : Int)) (hT 25 rfl rfl hG) rfl ⟨Ext.refl _, fun _ => rfl⟩
 exact Ap fun aq wq _ hO hR hT => does_or (B := (decide (((40 : Nat) : Int) < (one.length : Int))) || (decide (((40 : Nat) : Int) < (two.length : Int)))) (X := decide (((6 : Nat) : Int) < (path.length : Int))) (hT 21 rfl rfl) rfl (fun hB => (hT 26 rfl rfl (nb hB))) eR
 exact Ap fun aq wq _ hO hR hT => does_move (V := Value.bool (((decide (((40 : Nat) : Int) < (one.length : Int))) || (decide (((40 : Nat) : Int) < (two.length : Int)))) || (decide (((6 : Nat) : Int) < (path.length : Int))))) (hT 27 rfl rfl) eR
 refine Ask.guarded (B := ((decide (((40 : Nat) : Int) < (one.length : Int))) || (decide (((40 : Nat) : Int) < (two.length : Int)))) || (decide (((6 : Nat) : Int) < (path.length : Int)))) (want := false) (t := 28) rfl rfl rfl rfl (by decide) (fun aq wq hO hR hT => hT 28 rfl rfl) (fun hG aq wq hNq hO hR hT => ?_) (fun hno _ => fun hc => absurd (bn hc) hno)
 replace hG := nb hG
 exact does_field (o' := 12) fld_40_3 (oT hO s1_2 rfl) rfl ⟨Ext.refl _, fun _ => rfl⟩
 refine Ask.guarded (B := ((decide (((40 : Nat) : Int) < (one.length : Int))) || (decide (((40 : Nat) : Int) < (two.length : Int)))) || (decide (((6 : Nat) : Int) < (path.length : Int)))) (want := false) (t := 28) rfl rfl rfl rfl (by decide) (fun aq wq hO hR hT => hT 28 rfl rfl) (fun hG aq wq hNq hO hR hT => ?_) (fun hno _ => fun hc => absurd (bn hc) hno)
 replace hG := nb hG
 exact does_field (o' := 12) fld_30_0 (hT 29 rfl rfl hG) rfl ⟨Ext.refl _, fun _ => rfl⟩
 refine Ask.guarded (B := ((decide (((40 : Nat) : Int) < (one.length : Int))) || (decide (((40 : Nat) : Int) < (two.length : Int)))) || (decide (((6 : Nat) : Int) < (path.length : Int)))) (want := false) (t := 28) rfl rfl rfl rfl (by decide) (fun aq wq hO hR hT => hT 28 rfl rfl) (fun hG aq wq hNq hO hR hT => ?_) (fun hno _ => fun hc => absurd (bn hc) hno)
 replace hG := nb hG
 exact does_loadD1 (o := 12) (V := i64 (i)) (hT 30 rfl rfl hG) (B1_2.ext' hR) rfl one_3 ⟨Ext.refl _, fun _ => rfl⟩
 refine Ask.guarded (B := ((decide (((40 : Nat) : Int) < (one.length : Int))) || (decide (((40 : Nat) : Int) < (two.length : Int)))) || (decide (((6 : Nat) : Int) < (path.length : Int)))) (want := false) (t := 28) rfl rfl rfl rfl (by decide) (fun aq wq hO hR hT => hT 28 rfl rfl) (fun hG aq wq hNq hO hR hT => ?_) (fun hno _ => fun hc => absurd (bn hc) hno)
 replace hG := nb hG
 exact does_field (o' := 15) fld_40_4 (oT hO s1_2 rfl) rfl ⟨Ext.refl _, fun _ => rfl⟩
 refine Ask.guarded (B := ((decide (((40 : Nat) : Int) < (one.length : Int))) || (decide (((40 : Nat) : Int) < (two.length : Int)))) || (decide (((6 : Nat) : Int) < (path.length : Int)))) (want := false) (t := 28) rfl rfl rfl rfl (by decide) (fun aq wq hO hR hT => hT 28 rfl rfl) (fun hG aq wq hNq hO hR hT => ?_) (fun hno _ => fun hc => absurd (bn hc) hno)
 replace hG := nb hG
 exact does_field (o' := 15) fld_30_0 (hT 32 rfl rfl hG) rfl ⟨Ext.refl _, fun _ => rfl⟩
 refine Ask.guarded (B := ((decide (((40 : Nat) : Int) < (one.length : Int))) || (decide (((40 : Nat) : Int) < (two.length : Int)))) || (decide (((6 : Nat) : Int) < (path.length : Int)))) (want := false) (t := 28) rfl rfl rfl rfl (by decide) (fun aq wq hO hR hT => hT 28 rfl rfl) (fun hG aq wq hNq hO hR hT => ?_) (fun hno _ => fun hc => absurd (bn hc) hno)
 replace hG := nb hG
 exact does_loadD1 (o := 15) (V := i64 (j)) (hT 33 rfl rfl hG) (B1_2.ext' hR) rfl one_3 ⟨Ext.refl _, fun _ => rfl⟩
 refine Ask.guarded (B := ((decide (((40 : Nat) : Int) < (one.length : Int))) || (decide (((40 : Nat) : Int) < (two.length : Int)))) || (decide (((6 : Nat) : Int) < (path.length : Int)))) (want := false) (t := 28) rfl rfl rfl rfl (by decide) (fun aq wq hO hR hT => hT 28 rfl rfl) (fun hG aq wq hNq hO hR hT => ?_) (fun hno _ => fun hc => absurd (bn hc) hno)
 replace hG := nb hG
 exact does_neq (a := i) (b := j) (hT 31 rfl rfl hG) (hT 34 rfl rfl hG) ⟨Ext.refl _, fun _ => rfl⟩
 exact Ap fun aq wq _ hO hR hT => does_or (B := ((decide (((40 : Nat) : Int) < (one.length : Int))) || (decide (((40 : Nat) : Int) < (two.length : Int)))) || (decide (((6 : Nat) : Int) < (path.length : Int)))) (X := !decide (i = j)) (hT 28 rfl rfl) rfl (fun hB => (hT 35 rfl rfl (nb hB))) eR
 exact Ap fun aq wq _ hO hR hT => does_move (V := Value.bool ((((decide (((40 : Nat) : Int) < (one.length : Int))) || (decide (((40 : Nat) : Int) < (two.length : Int)))) || (decide (((6 : Nat) : Int) < (path.length : Int)))) || (!decide (i = j)))) (hT 36 rfl rfl) eR
 refine Ask.guarded (B := (((decide (((40 : Nat) : Int) < (one.length : Int))) || (decide (((40 : Nat) : Int) < (two.length : Int)))) || (decide (((6 : Nat) : Int) < (path.length : Int)))) || (!decide (i = j))) (want := false) (t := 37) rfl rfl rfl rfl (by decide) (fun aq wq hO hR hT => hT 37 rfl rfl) (fun hG aq wq hNq hO hR hT => ?_) (fun hno _ => fun hc => absurd (bn hc) hno)
 replace hG := nb hG
 exact does_field (o' := 12) fld_40_3 (oT hO s1_2 rfl) rfl ⟨Ext.refl _, fun _ => rfl⟩
 refine Ask.guarded (B := (((decide (((40 : Nat) : Int) < (one.length : Int))) || (decide (((40 : Nat) : Int) < (two.length : Int)))) || (decide (((6 : Nat) : Int) < (path.length : Int)))) || (!decide (i = j))) (want := false) (t := 37) rfl rfl rfl rfl (by decide) (fun aq wq hO hR hT => hT 37 rfl rfl) (fun hG aq wq hNq hO hR hT => ?_) (fun hno _ => fun hc => absurd (bn hc) hno)
 replace hG := nb hG
 exact does_field (o' := 14) fld_30_2 (hT 38 rfl rfl hG) rfl ⟨Ext.refl _, fun _ => rfl⟩
 refine Ask.guarded (B := (((decide (((40 : Nat) : Int) < (one.length : Int))) || (decide (((40 : Nat) : Int) < (two.length : Int)))) || (decide (((6 : Nat) : Int) < (path.length : Int)))) || (!decide (i = j))) (want := false) (t := 37) rfl rfl rfl rfl (by decide) (fun aq wq hO hR hT => hT 37 rfl rfl) (fun hG aq wq hNq hO hR hT => ?_) (fun hno _ => fun hc => absurd (bn hc) hno)
 replace hG := nb hG
 exact does_loadD1 (o := 14) (V := x2) (hT 39 rfl rfl hG) (B1_2.ext' hR) rfl one_27 ⟨Ext.refl _, fun _ => rfl⟩
 refine Ask.guarded (B := (((decide (((40 : Nat) : Int) < (one.length : Int))) || (decide (((40 : Nat) : Int) < (two.length : Int)))) || (decide (((6 : Nat) : Int) < (path.length : Int)))) || (!decide (i = j))) (want := false) (t := 37) rfl rfl rfl rfl (by decide) (fun aq wq hO hR hT => hT 37 rfl rfl) (fun hG aq wq hNq hO hR hT => ?_) (fun hno _ => fun hc => absurd (bn hc) hno)
 replace hG := nb hG
 exact does_len (T := DG) (xs := path) sli_27 (SlT.at (hT 40 rfl rfl hG) (X2_2.ext' hR)) ⟨Ext.refl _, fun _ => rfl⟩
 refine Ask.guarded (B := (((decide (((40 : Nat) : Int) < (one.length : Int))) || (decide (((40 : Nat) : Int) < (two.length : Int)))) || (decide (((6 : Nat) : Int) < (path.length : Int)))) || (!decide (i = j))) (want := false) (t := 37) rfl rfl rfl rfl (by decide) (fun aq wq hO hR hT => hT 37 rfl rfl) (fun hG aq wq hNq hO hR hT => ?_) (fun hno _ => fun hc => absurd (bn hc) hno)
 replace hG := nb hG
 exact does_field (o' := 15) fld_40_4 (oT hO s1_2 rfl) rfl ⟨Ext.refl _, fun _ => rfl⟩
 refine Ask.guarded (B := (((decide (((40 : Nat) : Int) < (one.length : Int))) || (decide (((40 : Nat) : Int) < (two.length : Int)))) || (decide (((6 : Nat) : Int) < (path.length : Int)))) || (!decide (i = j))) (want := false) (t := 37) rfl rfl rfl rfl (by decide) (fun aq wq hO hR hT => hT 37 rfl rfl) (fun hG aq wq hNq hO hR hT => ?_) (fun hno _ => fun hc => absurd (bn hc) hno)
 replace hG := nb hG
 exact does_field (o' := 17) fld_30_2 (hT 42 rfl rfl hG) rfl ⟨Ext.refl _, fun _ => rfl⟩
 refine Ask.guarded (B := (((decide (((40 : Nat) : Int) < (one.length : Int))) || (decide (((40 : Nat) : Int) < (two.length : Int)))) || (decide (((6 : Nat) : Int) < (path.length : Int)))) || (!decide (i = j))) (want := false) (t := 37) rfl rfl rfl rfl (by decide) (fun aq wq hO hR hT => hT 37 rfl rfl) (fun hG aq wq hNq hO hR hT => ?_) (fun hno _ => fun hc => absurd (bn hc) hno)
 replace hG := nb hG
 exact does_loadD1 (o := 17) (V := x4) (hT 43 rfl rfl hG) (B1_2.ext' hR) rfl one_27 ⟨Ext.refl _, fun _ => rfl⟩
 refine Ask.guarded (B := (((decide (((40 : Nat) : Int) < (one.length : Int))) || (decide (((40 : Nat) : Int) < (two.length : Int)))) || (decide (((6 : Nat) : Int) < (path.length : Int)))) || (!decide (i = j))) (want := false) (t := 37) rfl rfl rfl rfl (by decide) (fun aq wq hO hR hT => hT 37 rfl rfl) (fun hG aq wq hNq hO hR hT => ?_) (fun hno _ => fun hc => absurd (bn hc) hno)
 replace hG := nb hG
 exact does_len (T := DG) (xs := qath) sli_27 (SlT.at (hT 44 rfl rfl hG) (X4_2.ext' hR)) ⟨Ext.refl _, fun _ => rfl⟩
 refine Ask.guarded (B := (((decide (((40 : Nat) : Int) < (one.length : Int))) || (decide (((40 : Nat) : Int) < (two.length : Int)))) || (decide (((6 : Nat) : Int) < (path.length : Int)))) || (!decide (i = j))) (want := false) (t := 37) rfl rfl rfl rfl (by decide) (fun aq wq hO hR hT => hT 37 rfl rfl) (fun hG aq wq hNq hO hR hT => ?_) (fun hno _ => fun hc => absurd (bn hc) hno)
 replace hG := nb hG
 exact does_neq (a := (path.length : Int)) (b := (qath.length : Int)) (hT 41 rfl rfl hG) (hT 45 rfl rfl hG) ⟨Ext.refl _, fun _ => rfl⟩
 exact Ap fun aq wq _ hO hR hT => does_or (B := (((decide (((40 : Nat) : Int) < (one.length : Int))) || (decide (((40 : Nat) : Int) < (two.length : Int)))) || (decide (((6 : Nat) : Int) < (path.length : Int)))) || (!decide (i = j))) (X := !decide ((path.length : Int) = (qath.length : Int))) (hT 37 rfl rfl) rfl (fun hB => (hT 46 rfl rfl (nb hB))) eR
 exact Ap fun aq wq _ hO hR hT => does_move (V := Value.bool (((((decide (((40 : Nat) : Int) < (one.length : Int))) || (decide (((40 : Nat) : Int) < (two.length : Int)))) || (decide (((6 : Nat) : Int) < (path.length : Int)))) || (!decide (i = j))) || (!decide ((path.length : Int) = (qath.length : Int))))) (hT 47 rfl rfl) eR
 refine Ask.guarded (B := ((((decide (((40 : Nat) : Int) < (one.length : Int))) || (decide (((40 : Nat) : Int) < (two.length : Int)))) || (decide (((6 : Nat) : Int) < (path.length : Int)))) || (!decide (i = j))) || (!decide ((path.length : Int) = (qath.length : Int)))) (want := false) (t := 48) rfl rfl rfl rfl (by decide) (fun aq wq hO hR hT => hT 48 rfl rfl) (fun hG aq wq hNq hO hR hT => ?_) (fun hno _ => fun hc => absurd (bn hc) hno)
 replace hG := nb hG
 exact does_field (o' := 0) fld_40_0 (oT hO s1_2 rfl) rfl ⟨Ext.refl _, fun _ => rfl⟩
 refine Ask.guarded (B := ((((decide (((40 : Nat) : Int) < (one.length : Int))) || (decide (((40 : Nat) : Int) < (two.length : Int)))) || (decide (((6 : Nat) : Int) < (path.length : Int)))) || (!decide (i = j))) || (!decide ((path.length : Int) = (qath.length : Int)))) (want := false) (t := 48) rfl rfl rfl rfl (by decide) (fun aq wq hO hR hT => hT 48 rfl rfl) (fun hG aq wq hNq hO hR hT => ?_) (fun hno _ => fun hc => absurd (bn hc) hno)
 replace hG := nb hG
 exact does_loadD (o := 0) (n := 4) (mid := [w32 (pub).a, w32 (pub).b, w32 (pub).c, w32 (pub).d]) (hT 49 rfl rfl hG) (B1_2.ext' hR) rfl rfl (nB rfl) row_24 rfl ⟨Ext.refl _, fun _ => rfl⟩
 refine Ask.guarded (B := ((((decide (((40 : Nat) : Int) < (one.length : Int))) || (decide (((40 : Nat) : Int) < (two.length : Int)))) || (decide (((6 : Nat) : Int) < (path.length : Int)))) || (!decide (i = j))) || (!decide ((path.length : Int) = (qath.length : Int)))) (want := false) (t := 48) rfl rfl rfl rfl (by decide) (fun aq wq hO hR hT => hT 48 rfl rfl) (fun hG aq wq hNq hO hR hT => ?_) (fun hno _ => fun hc => absurd (bn hc) hno)
 replace hG := nb hG
 exact does_field (o' := 4) fld_40_1 (oT hO s1_2 rfl) rfl ⟨Ext.refl _, fun _ => rfl⟩
 refine Ask.guarded (B := ((((decide (((40 : Nat) : Int) < (one.length : Int))) || (decide (((40 : Nat) : Int) < (two.length : Int)))) || (decide (((6 : Nat) : Int) < (path.length : Int)))) || (!decide (i = j))) || (!decide ((path.length : Int) = (qath.length : Int)))) (want := false) (t := 48) rfl rfl rfl rfl (by decide) (fun aq wq hO hR hT => hT 48 rfl rfl) (fun hG aq wq hNq hO hR hT => ?_) (fun hno _ => fun hc => absurd (bn hc) hno)
 replace hG := nb hG
 exact does_loadD (o := 4) (n := 4) (mid := [w32 (m).a, w32 (m).b, w32 (m).c, w32 (m).d]) (hT 51 rfl rfl hG) (B1_2.ext' hR) rfl rfl (nB rfl) row_24 rfl ⟨Ext.refl _, fun _ => rfl⟩
 refine Ask.guarded (B := ((((decide (((40 : Nat) : Int) < (one.length : Int))) || (decide (((40 : Nat) : Int) < (two.length : Int)))) || (decide (((6 : Nat) : Int) < (path.length : Int)))) || (!decide (i = j))) || (!decide ((path.length : Int) = (qath.length : Int)))) (want := false) (t := 48) rfl rfl rfl rfl (by decide) (fun aq wq hO hR hT => hT 48 rfl rfl) (fun hG aq wq hNq hO hR hT => ?_) (fun hno _ => fun hc => absurd (bn hc) hno)
 replace hG := nb hG
 exact does_field (o' := 12) fld_40_3 (oT hO s1_2 rfl) rfl ⟨Ext.refl _, fun _ => rfl⟩
 refine Ask.guarded (B := ((((decide (((40 : Nat) : Int) < (one.length : Int))) || (decide (((40 : Nat) : Int) < (two.length : Int)))) || (decide (((6 : Nat) : Int) < (path.length : Int)))) || (!decide (i = j))) || (!decide ((path.length : Int) = (qath.length : Int)))) (want := false) (t := 48) rfl rfl rfl rfl (by decide) (fun aq wq hO hR hT => hT 48 rfl rfl) (fun hG aq wq hNq hO hR hT => ?_) (fun hno _ => fun hc => absurd (bn hc) hno)
 replace hG := nb hG
 exact does_loadD (o := 12) (n := 3) (mid := [i64 (i), x1, x2]) (hT 53 rfl rfl hG) (B1_2.ext' hR) rfl rfl (nB rfl) row_30 rfl ⟨Ext.refl _, fun _ => rfl⟩
 refine Ask.guarded (B := ((((decide (((40 : Nat) : Int) < (one.length : Int))) || (decide (((40 : Nat) : Int) < (two.length : Int)))) || (decide (((6 : Nat) : Int) < (path.length : Int)))) || (!decide (i = j))) || (!decide ((path.length : Int) = (qath.length : Int)))) (want := false) (t := 48) rfl rfl rfl rfl (by decide) (fun aq wq hO hR hT => hT 48 rfl rfl) (fun hG aq wq hNq hO hR hT => ?_) (fun hno _ => fun hc => absurd (bn hc) hno)
 replace hG := nb hG
 exact does_ret (vs := #[Dg.val (pub), Dg.val (m), Value.agg #[i64 (i), x1, x2]]) call_12 (args3 (hT 50 rfl rfl hG) (hT 52 rfl rfl hG) (hT 54 rfl rfl hG)) rfl ((keyCheck_ pub m (i) one path (x1) (x2) wq (hL.ext (E2.trans hR)) ((X1_2.ext' hR).wide (Nat.zero_le _) (.inl rfl)) ((X2_2.ext' hR).wide (Nat.zero_le _) (.inl rfl)) (by simp at hG; omega) (by simp at hG; omega)).mono fun v w2 h => ⟨h.2, fun _ => h.1⟩)
 refine Ask.guarded (B := ((((decide (((40 : Nat) : Int) < (one.length : Int))) || (decide (((40 : Nat) : Int) < (two.length : Int)))) || (decide (((6 : Nat) : Int) < (path.length : Int)))) || (!decide (i = j))) || (!decide ((path.length : Int) = (qath.length : Int)))) (want := false) (t := 48) rfl rfl rfl rfl (by decide) (fun aq wq hO hR hT => hT 48 rfl rfl) (fun hG aq wq hNq hO hR hT => ?_) (fun hno _ => fun hc => absurd (bn hc) hno)
 replace hG := nb hG
 exact does_not (B := keyCheck pub m (i) one path) (hT 55 rfl rfl hG) ⟨Ext.refl _, fun _ => rfl⟩
 exact Ap fun aq wq _ hO hR hT => does_or (B := ((((decide (((40 : Nat) : Int) < (one.length : Int))) || (decide (((40 : Nat) : Int) < (two.length : Int)))) || (decide (((6 : Nat) : Int) < (path.length : Int)))) || (!decide (i = j))) || (!decide ((path.length : Int) = (qath.length : Int)))) (X := !(keyCheck pub m (i) one path)) (hT 48 rfl rfl) rfl (fun hB => (hT 56 rfl rfl (nb hB))) eR
 exact Ap fun aq wq _ hO hR hT => does_move (V := Value.bool ((((((decide (((40 : Nat) : Int) < (one.length : Int))) || (decide (((40 : Nat) : Int) < (two.length : Int)))) || (decide (((6 : Nat) : Int) < (path.length : Int)))) || (!decide (i = j))) || (!decide ((path.length : Int) = (qath.length : Int)))) || (!(keyCheck pub m (i) one path)))) (hT 57 rfl rfl) eR
 refine Ask.guarded (B := (((((decide (((40 : Nat) : Int) < (one.length : Int))) || (decide (((40 : Nat) : Int) < (two.length : Int)))) || (decide (((6 : Nat) : Int) < (path.length : Int)))) || (!decide (i = j))) || (!decide ((path.length : Int) = (qath.length : Int)))) || (!(keyCheck pub m (i) one path))) (want := false) (t := 58) rfl rfl rfl rfl (by decide) (fun aq wq hO hR hT => hT 58 rfl rfl) (fun hG aq wq hNq hO hR hT => ?_) (fun hno _ => fun hc => absurd (bn hc) hno)
 replace hG := nb hG
 exact does_field (o' := 0) fld_40_0 (oT hO s1_2 rfl) rfl ⟨Ext.refl _, fun _ => rfl⟩
 refine Ask.guarded (B := (((((decide (((40 : Nat) : Int) < (one.length : Int))) || (decide (((40 : Nat) : Int) < (two.length : Int)))) || (decide (((6 : Nat) : Int) < (path.length : Int)))) || (!decide (i = j))) || (!decide ((path.length : Int) = (qath.length : Int)))) || (!(keyCheck pub m (i) one path))) (want := false) (t := 58) rfl rfl rfl rfl (by decide) (fun aq wq hO hR hT => hT 58 rfl rfl) (fun hG aq wq hNq hO hR hT => ?_) (fun hno _ => fun hc => absurd (bn hc) hno)
 replace hG := nb hG
 exact does_loadD (o := 0) (n := 4) (mid := [w32 (pub).a, w32 (pub).b, w32 (pub).c, w32 (pub).d]) (hT 59 rfl rfl hG) (B1_2.ext' hR) rfl rfl (nB rfl) row_24 rfl ⟨Ext.refl _, fun _ => rfl⟩
 refine Ask.guarded (B := (((((decide (((40 : Nat) : Int) < (one.length : Int))) || (decide (((40 : Nat) : Int) < (two.length : Int)))) || (decide (((6 : Nat) : Int) < (path.length : Int)))) || (!decide (i = j))) || (!decide ((path.length : Int) = (qath.length : Int)))) || (!(keyCheck pub m (i) one path))) (want := false) (t := 58) rfl rfl rfl rfl (by decide) (fun aq wq hO hR hT => hT 58 rfl rfl) (fun hG aq wq hNq hO hR hT => ?_) (fun hno _ => fun hc => absurd (bn hc) hno)
 replace hG := nb hG
 exact does_field (o' := 8) fld_40_2 (oT hO s1_2 rfl) rfl ⟨Ext.refl _, fun _ => rfl⟩
 refine Ask.guarded (B := (((((decide (((40 : Nat) : Int) < (one.length : Int))) || (decide (((40 : Nat) : Int) < (two.length : Int)))) || (decide (((6 : Nat) : Int) < (path.length : Int)))) || (!decide (i = j))) || (!decide ((path.length : Int) = (qath.length : Int)))) || (!(keyCheck pub m (i) one path))) (want := false) (t := 58) rfl rfl rfl rfl (by decide) (fun aq wq hO hR hT => hT 58 rfl rfl) (fun hG aq wq hNq hO hR hT => ?_) (fun hno _ => fun hc => absurd (bn hc) hno)
 replace hG := nb hG
 exact does_loadD (o := 8) (n := 4) (mid := [w32 (n).a, w32 (n).b, w32 (n).c, w32 (n).d]) (hT 61 rfl rfl hG) (B1_2.ext' hR) rfl rfl (nB rfl) row_24 rfl ⟨Ext.refl _, fun _ => rfl⟩
 refine Ask.guarded (B := (((((decide (((40 : Nat) : Int) < (one.length : Int))) || (decide (((40 : Nat) : Int) < (two.length : Int)))) || (decide (((6 : Nat) : Int) < (path.length : Int)))) || (!decide (i = j))) || (!decide ((path.length : Int) = (qath.length : Int)))) || (!(keyCheck pub m (i) one path))) (want := false) (t := 58) rfl rfl rfl rfl (by decide) (fun aq wq hO hR hT => hT 58 rfl rfl) (fun hG aq wq hNq hO hR hT => ?_) (fun hno _ => fun hc => absurd (bn hc) hno)
 replace hG := nb hG
 exact does_field (o' := 15) fld_40_4 (oT hO s1_2 rfl) rfl ⟨Ext.refl _, fun _ => rfl⟩
 refine Ask.guarded (B := (((((decide (((40 : Nat) : Int) < (one.length : Int))) || (decide (((40 : Nat) : Int) < (two.length : Int)))) || (decide (((6 : Nat) : Int) < (path.length : Int)))) || (!decide (i = j))) || (!decide ((path.length : Int) = (qath.length : Int)))) || (!(keyCheck pub m (i) one path))) (want := false) (t := 58) rfl rfl rfl rfl (by decide) (fun aq wq hO hR hT => hT 58 rfl rfl) (fun hG aq wq hNq hO hR hT => ?_) (fun hno _ => fun hc => absurd (bn hc) hno)
 replace hG := nb hG
 exact does_loadD (o := 15) (n := 3) (mid := [i64 (j), x3, x4]) (hT 63 rfl rfl hG) (B1_2.ext' hR) rfl rfl (nB rfl) row_30 rfl ⟨Ext.refl _, fun _ => rfl⟩
 refine Ask.guarded (B := (((((decide (((40 : Nat) : Int) < (one.length : Int))) || (decide (((40 : Nat) : Int) < (two.length : Int)))) || (decide (((6 : Nat) : Int) < (path.length : Int)))) || (!decide (i = j))) || (!decide ((path.length : Int) = (qath.length : Int)))) || (!(keyCheck pub m (i) one path))) (want := false) (t := 58) rfl rfl rfl rfl (by decide) (fun aq wq hO hR hT => hT 58 rfl rfl) (fun hG aq wq hNq hO hR hT => ?_) (fun hno _ => fun hc => absurd (bn hc) hno)
 replace hG := nb hG
 exact does_ret (vs := #[Dg.val (pub), Dg.val (n), Value.agg #[i64 (j), x3, x4]]) call_12 (args3 (hT 60 rfl rfl hG) (hT 62 rfl rfl hG) (hT 64 rfl rfl hG)) rfl ((keyCheck_ pub n (j) two qath (x3) (x4) wq (hL.ext (E2.trans hR)) ((X3_2.ext' hR).wide (Nat.zero_le _) (.inl rfl)) ((X4_2.ext' hR).wide (Nat.zero_le _) (.inl rfl)) (by simp at hG; omega) (by simp at hG; omega)).mono fun v w2 h => ⟨h.2, fun _ => h.1⟩)
 refine Ask.guarded (B := (((((decide (((40 : Nat) : Int) < (one.length : Int))) || (decide (((40 : Nat) : Int) < (two.length : Int)))) || (decide (((6 : Nat) : Int) < (path.length : Int)))) || (!decide (i = j))) || (!decide ((path.length : Int) = (qath.length : Int)))) || (!(keyCheck pub m (i) one path))) (want := false) (t := 58) rfl rfl rfl rfl (by decide) (fun aq wq hO hR hT => hT 58 rfl rfl) (fun hG aq wq hNq hO hR hT => ?_) (fun hno _ => fun hc => absurd (bn hc) hno)
 replace hG := nb hG
 exact does_not (B := keyCheck pub n (j) two qath) (hT 65 rfl rfl hG) ⟨Ext.refl _, fun _ => rfl⟩
 exact Ap fun aq wq _ hO hR hT => does_or (B := (((((decide (((40 : Nat) : Int) < (one.length : Int))) || (decide (((40 : Nat) : Int) < (two.length : Int)))) || (decide (((6 : Nat) : Int) < (path.length : Int)))) || (!decide (i = j))) || (!decide ((path.length : Int) = (qath.length : Int)))) || (!(keyCheck pub m (i) one path))) (X := !(keyCheck pub n (j) two qath)) (hT 58 rfl rfl) rfl (fun hB => (hT 66 rfl rfl (nb hB))) eR
 intro a3 wd3 N3 D3 hO hR hA hU
 obtain ⟨_, _, _, _, _, _, _, _, _, _, _, _, _, _, _, _, _, _, _, _, _, _, _, _, _, _, _, _, _, _, _, _, _, _, _, _, _, _, _, _, _, _, _, _, _, _, _, _, _, _, _, _, _, _, _, _, _, _, t67, _⟩ := hA
 have E3 := E2.trans hR
 have s1_3 := oT hO s1_2 rfl
 have B1_3 := B1_2.ext' hR
 have X1_3 := X1_2.ext' hR
 have X2_3 := X2_2.ext' hR
 have X3_3 := X3_2.ext' hR
 have X4_3 := X4_2.ext' hR
 have s67_3 : get a3 67 = Value.bool (((((((decide (((40 : Nat) : Int) < (one.length : Int))) || (decide (((40 : Nat) : Int) < (two.length : Int)))) || (decide (((6 : Nat) : Int) < (path.length : Int)))) || (!decide (i = j))) || (!decide ((path.length : Int) = (qath.length : Int)))) || (!(keyCheck pub m (i) one path))) || (!(keyCheck pub n (j) two qath))) := t67
 clear E2 N2 D2 s1_2 s8_2 B1_2 X1_2 X2_2 X3_2 X4_2
 refine tail_nil ?_
 refine wp_if (B := ((((((decide (((40 : Nat) : Int) < (one.length : Int))) || (decide (((40 : Nat) : Int) < (two.length : Int)))) || (decide (((6 : Nat) : Int) < (path.length : Int)))) || (!decide (i = j))) || (!decide ((path.length : Int) = (qath.length : Int)))) || (!(keyCheck pub m (i) one path))) || (!(keyCheck pub n (j) two qath))) s67_3 (fun hc0 => ?_) (fun hc0 => ?_)
 refine wp_seq ?_
 refine Rl [] [(2, Pr.ex (Value.bool (true)))] 1 N3 D3 ?_ ?_
 refine Ac ?_ (Az _)
 exact Ap fun aq wq _ hO hR hT => does_assign (V := Value.bool (true)) rfl eR
 intro a4 wd4 N4 D4 hO hR hA hU
 obtain ⟨t2, _⟩ := hA
 have E4 := E3.trans hR
 have B1_4 := B1_3.ext' hR
 have X1_4 := X1_3.ext' hR
 have X2_4 := X2_3.ext' hR
 have X3_4 := X3_3.ext' hR
 have X4_4 := X4_3.ext' hR
 have s2_4 : get a4 2 = Value.bool (true) := t2
 clear E3 N3 D3 s1_3 s67_3 B1_3 X1_3 X2_3 X3_3 X4_3
 refine tail_nil ?_
 refine wp_ret ?_
 refine res_one (V := Value.bool (true)) rfl D4 s2_4 ?_
 exact ⟨rfl, E4⟩
 obtain ⟨h46, hij, hpq, hk1, hk2⟩ : (one.length ≤ 40 ∧ two.length ≤ 40 ∧ path.length ≤ 6) ∧ i = j ∧ path.length = qath.length ∧ keyCheck pub m i one path = true ∧ keyCheck pub n j two qath = true := by simp at hc0; refine ⟨by omega, by omega, by omega, hc0.1.2, hc0.2⟩
 refine wp_skip ?_
 refine wp_seq ?_
 rw [← hij] at hk2
 obtain ⟨hp4, _, hi16, _⟩ := keyCheck_is hk1
 have hp16 := pw_small hp4
 obtain ⟨i', hi'⟩ : ∃ n : Nat, i = n := ⟨i.toNat, by omega⟩
 refine Rl [3] [(69, Pr.ex (Value.pointer (some ⟨b1, 4, none⟩))), (70, Pr.ex (Dg.val (m))), (71, Pr.ex (Value.pointer (some ⟨b1, 12, none⟩))), (72, Pr.ex (Value.pointer (some ⟨b1, 13, none⟩))), (73, Pr.ex (x1)), (74, Pr.ex (Value.tuple #[Dg.val ((reachO m one).1), Value.bool ((reachO m one).2)])), (68, Pr.ex (Value.tuple #[Dg.val ((reachO m one).1), Value.bool ((reachO m one).2)])), (75, Pr.ex (Dg.val ((reachO m one).1))), (76, Pr.ex (Value.bool ((reachO m one).2))), (3, Pr.box' wd3.heap.size 24 [w32 (Dg.zero).a, w32 (Dg.zero).b, w32 (Dg.zero).c, w32 (Dg.zero).d])] 10 N3 D3 ?_ ?_
 refine Ac ?_ (Ac ?_ (Ac ?_ (Ac ?_ (Ac ?_ (Ac ?_ (Ac ?_ (Ac ?_ (Ac ?_ (Ac ?_ (Az _))))))))))
 exact Ap fun aq wq _ hO hR hT => does_field (o' := 4) fld_40_1 (oT hO s1_3 rfl) rfl eR
 exact Ap fun aq wq _ hO hR hT => does_loadD (o := 4) (n := 4) (mid := [w32 (m).a, w32 (m).b, w32 (m).c, w32 (m).d]) (hT 69 rfl rfl) (B1_3.ext' hR) rfl rfl (nB rfl) row_24 rfl eR
 exact Ap fun aq wq _ hO hR hT => does_field (o' := 12) fld_40_3 (oT hO s1_3 rfl) rfl eR
 exact Ap fun aq wq _ hO hR hT => does_field (o' := 13) fld_30_1 (hT 71 rfl rfl) rfl eR
 exact Ap fun aq wq _ hO hR hT => does_loadD1 (o := 13) (V := x1) (hT 72 rfl rfl) (B1_3.ext' hR) rfl one_28 eR
 exact Ap fun aq wq _ hO hR hT => does_ret (vs := #[Dg.val (m), x1]) call_14 (args2 (hT 70 rfl rfl) (hT 73 rfl rfl)) rfl ((reachR m one (x1) wq ((X1_3.ext' hR).wide (Nat.zero_le _) (.inl rfl)) (by omega)).mono fun v w2 h => ⟨h.2, h.1⟩)
 exact Ap fun aq wq _ hO hR hT => does_move (V := Value.tuple #[Dg.val ((reachO m one).1), Value.bool ((reachO m one).2)]) (hT 74 rfl rfl) eR
 exact Ap fun aq wq _ hO hR hT => does_extract (V := Dg.val ((reachO m one).1)) (hT 68 rfl rfl) rfl eR
 exact Ap fun aq wq _ hO hR hT => does_extract (V := Value.bool ((reachO m one).2)) (hT 68 rfl rfl) rfl eR
 refine Ask.fresh rfl rfl ?_
 intro aq wq hNq hO hR hT
 exact does_alloc zero_24 (fun b w2 he hlo hb => ⟨he, ⟨b, rfl, Nat.le_trans hR.size' hlo, hb⟩, ⟨b, rfl, hlo, hb.lt⟩⟩)
 intro a5 wd5 N5 D5 hO hR hA hU
 obtain ⟨_, _, _, _, _, _, _, t75, t76, t3, _⟩ := hA
 have E5 := E3.trans hR
 have s1_5 := oT hO s1_3 rfl
 have B1_5 := B1_3.ext' hR
 have X1_5 := X1_3.ext' hR
 have X2_5 := X2_3.ext' hR
 have X3_5 := X3_3.ext' hR
 have X4_5 := X4_3.ext' hR
 have s75_5 : get a5 75 = Dg.val ((reachO m one).1) := t75
 have s76_5 : get a5 76 = Value.bool ((reachO m one).2) := t76
 obtain ⟨b3, s3_5, lo_b3, B3_5⟩ := t3
 have ne_b1_b3 := Hl B1_3 lo_b3
 have nb_x1_b3 := SlT.old X1_3 lo_b3
 have nb_x2_b3 := SlT.old X2_3 lo_b3
 have nb_x3_b3 := SlT.old X3_3 lo_b3
 have nb_x4_b3 := SlT.old X4_3 lo_b3
 have fr_b3 : w0.heap.size ≤ b3 := Nat.le_trans E3.size' lo_b3
 clear E3 N3 D3 s1_3 s67_3 B1_3 X1_3 X2_3 X3_3 X4_3
 refine tail_none rfl rfl (does_storeD (o := 0) (n := 4) (cs' := [w32 ((reachO m one).1).a, w32 ((reachO m one).1).b, w32 ((reachO m one).1).c, w32 ((reachO m one).1).d]) (V := Dg.val ((reachO m one).1)) s3_5 s75_5 B3_5 (nB rfl) rfl siz_24 rfl rfl (fun wd6 hX hz B3_6 => ?_))
 have E6 := E5.since hX (fun k e => e ▸ fr_b3)
 have B1_6 := B1_5.ext hX ne_b1_b3
 have X1_6 := SlT.over X1_5 hX nb_x1_b3
 have X2_6 := SlT.over X2_5 hX nb_x2_b3
 have X3_6 := SlT.over X3_5 hX nb_x3_b3
 have X4_6 := SlT.over X4_5 hX nb_x4_b3
 clear hX hz E5 B1_5 B3_5 X1_5 X2_5 X3_5 X4_5
 refine tail_put rfl rfl N5 D5 (by decide) (does_assign (V := Value.bool ((reachO m one).2)) s76_5 (fun a7 N7 D7 hv hO => ?_))
 have s4_7 := hv
 have s1_7 := oT hO s1_5 rfl
 have s3_7 := oT hO s3_5 rfl
 clear hO hv N5 D5 s1_5 s3_5 s75_5 s76_5
 refine tail_nil ?_
 refine wp_seq ?_
 refine Rl [5] [(78, Pr.ex (Value.pointer (some ⟨b1, 8, none⟩))), (79, Pr.ex (Dg.val (n))), (80, Pr.ex (Value.pointer (some ⟨b1, 15, none⟩))), (81, Pr.ex (Value.pointer (some ⟨b1, 16, none⟩))), (82, Pr.ex (x3)), (83, Pr.ex (Value.tuple #[Dg.val ((reachO n two).1), Value.bool ((reachO n two).2)])), (77, Pr.ex (Value.tuple #[Dg.val ((reachO n two).1), Value.bool ((reachO n two).2)])), (84, Pr.ex (Dg.val ((reachO n two).1))), (85, Pr.ex (Value.bool ((reachO n two).2))), (5, Pr.box' wd6.heap.size 24 [w32 (Dg.zero).a, w32 (Dg.zero).b, w32 (Dg.zero).c, w32 (Dg.zero).d])] 10 N7 D7 ?_ ?_
 refine Ac ?_ (Ac ?_ (Ac ?_ (Ac ?_ (Ac ?_ (Ac ?_ (Ac ?_ (Ac ?_ (Ac ?_ (Ac ?_ (Az _))))))))))
 exact Ap fun aq wq _ hO hR hT => does_field (o' := 8) fld_40_2 (oT hO s1_7 rfl) rfl eR
 exact Ap fun aq wq _ hO hR hT => does_loadD (o := 8) (n := 4) (mid := [w32 (n).a, w32 (n).b, w32 (n).c, w32 (n).d]) (hT 78 rfl rfl) (B1_6.ext' hR) rfl rfl (nB rfl) row_24 rfl eR
 exact Ap fun aq wq _ hO hR hT => does_field (o' := 15) fld_40_4 (oT hO s1_7 rfl) rfl eR
 exact Ap fun aq wq _ hO hR hT => does_field (o' := 16) fld_30_1 (hT 80 rfl rfl) rfl eR
 exact Ap fun aq wq _ hO hR hT => does_loadD1 (o := 16) (V := x3) (hT 81 rfl rfl) (B1_6.ext' hR) rfl one_28 eR
 exact Ap fun aq wq _ hO hR hT => does_ret (vs := #[Dg.val (n), x3]) call_14 (args2 (hT 79 rfl rfl) (hT 82 rfl rfl)) rfl ((reachR n two (x3) wq ((X3_6.ext' hR).wide (Nat.zero_le _) (.inl rfl)) (by omega)).mono fun v w2 h => ⟨h.2, h.1⟩)
 exact Ap fun aq wq _ hO hR hT => does_move (V := Value.tuple #[Dg.val ((reachO n two).1), Value.bool ((reachO n two).2)]) (hT 83 rfl rfl) eR
 exact Ap fun aq wq _ hO hR hT => does_extract (V := Dg.val ((reachO n two).1)) (hT 77 rfl rfl) rfl eR
 exact Ap fun aq wq _ hO hR hT => does_extract (V := Value.bool ((reachO n two).2)) (hT 77 rfl rfl) rfl eR
 refine Ask.fresh rfl rfl ?_
 intro aq wq hNq hO hR hT
 exact does_alloc zero_24 (fun b w2 he hlo hb => ⟨he, ⟨b, rfl, Nat.le_trans hR.size' hlo, hb⟩, ⟨b, rfl, hlo, hb.lt⟩⟩)
 intro a8 wd8 N8 D8 hO hR hA hU
 obtain ⟨_, _, _, _, _, _, _, t84, t85, t5, _⟩ := hA
 have E8 := E6.trans hR
 have s1_8 := oT hO s1_7 rfl
 have s3_8 := oT hO s3_7 rfl
 have s4_8 := oT hO s4_7 rfl
 have B1_8 := B1_6.ext' hR
 have B3_8 := B3_6.ext' hR
 have X1_8 := X1_6.ext' hR
 have X2_8 := X2_6.ext' hR
 have X3_8 := X3_6.ext' hR
 have X4_8 := X4_6.ext' hR
 have s84_8 : get a8 84 = Dg.val ((reachO n two).1) := t84
 have s85_8 : get a8 85 = Value.bool ((reachO n two).2) := t85
 obtain ⟨b5, s5_8, lo_b5, B5_8⟩ := t5
 have ne_b1_b5 := Hl B1_6 lo_b5
 have ne_b3_b5 := Hl B3_6 lo_b5
 have nb_x1_b5 := SlT.old X1_6 lo_b5
 have nb_x2_b5 := SlT.old X2_6 lo_b5
 have nb_x3_b5 := SlT.old X3_6 lo_b5
 have nb_x4_b5 := SlT.old X4_6 lo_b5
 have fr_b5 : w0.heap.size ≤ b5 := Nat.le_trans E6.size' lo_b5
 clear E6 N7 D7 s1_7 s3_7 s4_7 B1_6 B3_6 X1_6 X2_6 X3_6 X4_6
 refine tail_none rfl rfl (does_storeD (o := 0) (n := 4) (cs' := [w32 ((reachO n two).1).a, w32 ((reachO n two).1).b, w32 ((reachO n two).1).c, w32 ((reachO n two).1).d]) (V := Dg.val ((reachO n two).1)) s5_8 s84_8 B5_8 (nB rfl) rfl siz_24 rfl rfl (fun wd9 hX hz B5_9 => ?_))
 have E9 := E8.since hX (fun k e => e ▸ fr_b5)
 have B1_9 := B1_8.ext hX ne_b1_b5
 have B3_9 := B3_8.ext hX ne_b3_b5
 have X1_9 := SlT.over X1_8 hX nb_x1_b5
 have X2_9 := SlT.over X2_8 hX nb_x2_b5
 have X3_9 := SlT.over X3_8 hX nb_x3_b5
 have X4_9 := SlT.over X4_8 hX nb_x4_b5
 clear hX hz E8 B1_8 B3_8 B5_8 X1_8 X2_8 X3_8 X4_8
 refine tail_put rfl rfl N8 D8 (by decide) (does_assign (V := Value.bool ((reachO n two).2)) s85_8 (fun a10 N10 D10 hv hO => ?_))
 have s6_10 := hv
 have s1_10 := oT hO s1_8 rfl
 have s3_10 := oT hO s3_8 rfl
 have s4_10 := oT hO s4_8 rfl
 have s5_10 := oT hO s5_8 rfl
 clear hO hv N8 D8 s1_8 s3_8 s4_8 s5_8 s84_8 s85_8
 refine tail_nil ?_
 refine wp_seq ?_
 rw [hi'] at B1_9
 refine Rl [] [(86, Pr.ex (Value.bool ((reachO m one).2))), (87, Pr.ex (Value.bool ((reachO m one).2))), (88, Pr.ifb ((reachO m one).2) (Pr.ex (Value.bool ((reachO n two).2)))), (89, Pr.ex (Value.bool (((reachO m one).2) && ((reachO n two).2)))), (90, Pr.ex (Value.bool (((reachO m one).2) && ((reachO n two).2)))), (91, Pr.ifb (((reachO m one).2) && ((reachO n two).2)) (Pr.ex (Dg.val ((reachO m one).1)))), (92, Pr.ifb (((reachO m one).2) && ((reachO n two).2)) (Pr.ex (Dg.val ((reachO n two).1)))), (93, Pr.ifb (((reachO m one).2) && ((reachO n two).2)) (Pr.ex (Value.bool (decide ((reachO m one).1 = (reachO n two).1))))), (94, Pr.ifu (((reachO m one).2) && ((reachO n two).2)) (Pr.ex (Value.bool (decide ((reachO m one).1 = (reachO n two).1))))), (95, Pr.ifb ((((reachO m one).2) && ((reachO n two).2)) && (!(decide ((reachO m one).1 = (reachO n two).1)))) (Pr.ex (Value.pointer (some ⟨b1, 12, none⟩)))), (96, Pr.ifb ((((reachO m one).2) && ((reachO n two).2)) && (!(decide ((reachO m one).1 = (reachO n two).1)))) (Pr.ex (Value.pointer (some ⟨b1, 12, none⟩)))), (97, Pr.ifb ((((reachO m one).2) && ((reachO n two).2)) && (!(decide ((reachO m one).1 = (reachO n two).1)))) (Pr.ex (i64 (i' : Int)))), (98, Pr.ifb ((((reachO m one).2) && ((reachO n two).2)) && (!(decide ((reachO m one).1 = (reachO n two).1)))) (Pr.ex (Dg.val ((reachO m one).1)))), (99, Pr.ifb ((((reachO m one).2) && ((reachO n two).2)) && (!(decide ((reachO m one).1 = (reachO n two).1)))) (Pr.ex (Value.pointer (some ⟨b1, 12, none⟩)))), (100, Pr.ifb ((((reachO m one).2) && ((reachO n two).2)) && (!(decide ((reachO m one).1 = (reachO n two).1)))) (Pr.ex (Value.pointer (some ⟨b1, 14, none⟩)))), (101, Pr.ifb ((((reachO m one).2) && ((reachO n two).2)) && (!(decide ((reachO m one).1 = (reachO n two).1)))) (Pr.ex (x2))), (102, Pr.ifb ((((reachO m one).2) && ((reachO n two).2)) && (!(decide ((reachO m one).1 = (reachO n two).1)))) (Pr.ex (Dg.val ((reachO n two).1)))), (103, Pr.ifb ((((reachO m one).2) && ((reachO n two).2)) && (!(decide ((reachO m one).1 = (reachO n two).1)))) (Pr.ex (Value.pointer (some ⟨b1, 15, none⟩)))), (104, Pr.ifb ((((reachO m one).2) && ((reachO n two).2)) && (!(decide ((reachO m one).1 = (reachO n two).1)))) (Pr.ex (Value.pointer (some ⟨b1, 17, none⟩)))), (105, Pr.ifb ((((reachO m one).2) && ((reachO n two).2)) && (!(decide ((reachO m one).1 = (reachO n two).1)))) (Pr.ex (x4))), (106, Pr.ifb ((((reachO m one).2) && ((reachO n two).2)) && (!(decide ((reachO m one).1 = (reachO n two).1)))) (Pr.ex (Value.bool (clashK i' ((reachO m one).1) path ((reachO n two).1) qath)))), (107, Pr.ifb (((reachO m one).2) && ((reachO n two).2)) (Pr.ex (Value.bool ((decide ((reachO m one).1 = (reachO n two).1)) || (clashK i' ((reachO m one).1) path ((reachO n two).1) qath))))), (108, Pr.ex (Value.bool ((((reachO m one).2) && ((reachO n two).2)) && ((decide ((reachO m one).1 = (reachO n two).1)) || (clashK i' ((reachO m one).1) path ((reachO n two).1) qath))))), (2, Pr.ex (Value.bool ((((reachO m one).2) && ((reachO n two).2)) && ((decide ((reachO m one).1 = (reachO n two).1)) || (clashK i' ((reachO m one).1) path ((reachO n two).1) qath)))))] 24 N10 D10 ?_ ?_
 refine Ac ?_ (Ac ?_ (Ac ?_ (Ac ?_ (Ac ?_ (Ac ?_ (Ac ?_ (Ac ?_ (Ac ?_ (Ac ?_ (Ac ?_ (Ac ?_ (Ac ?_ (Ac ?_ (Ac ?_ (Ac ?_ (Ac ?_ (Ac ?_ (Ac ?_ (Ac ?_ (Ac ?_ (Ac ?_ (Ac ?_ (Ac ?_ (Az _))))))))))))))))))))))))
 exact Am s4_10 rfl fun _ => rfl
 exact Ap fun aq wq _ hO hR hT => does_move (V := Value.bool ((reachO m one).2)) (hT 86 rfl rfl) eR
 refine Ask.guarded (B := (reachO m one).2) (want := true) (t := 87) rfl rfl rfl rfl (by decide) (fun aq wq hO hR hT => hT 87 rfl rfl) (fun hG aq wq hNq hO hR hT => ?_) (fun hno _ => fun hc => absurd hc hno)
 exact does_move (V := Value.bool ((reachO n two).2)) (oT hO s6_10 rfl) ⟨Ext.refl _, fun _ => rfl⟩
 exact Ap fun aq wq _ hO hR hT => does_and (B := (reachO m one).2) (X := (reachO n two).2) (hT 87 rfl rfl) (fun hB => (hT 88 rfl rfl hB)) rfl eR
 exact Ap fun aq wq _ hO hR hT => does_move (V := Value.bool (((reachO m one).2) && ((reachO n two).2))) (hT 89 rfl rfl) eR
 refine Ask.guarded (B := ((reachO m one).2) && ((reachO n two).2)) (want := true) (t := 90) rfl rfl rfl rfl (by decide) (fun aq wq hO hR hT => hT 90 rfl rfl) (fun hG aq wq hNq hO hR hT => ?_) (fun hno _ => fun hc => absurd hc hno)
 exact does_loadD (o := 0) (n := 4) (mid := [w32 ((reachO m one).1).a, w32 ((reachO m one).1).b, w32 ((reachO m one).1).c, w32 ((reachO m one).1).d]) (oT hO s3_10 rfl) (B3_9.ext' hR) rfl rfl (nB rfl) row_24 rfl ⟨Ext.refl _, fun _ => rfl⟩
 refine Ask.guarded (B := ((reachO m one).2) && ((reachO n two).2)) (want := true) (t := 90) rfl rfl rfl rfl (by decide) (fun aq wq hO hR hT => hT 90 rfl rfl) (fun hG aq wq hNq hO hR hT => ?_) (fun hno _ => fun hc => absurd hc hno)
 exact does_loadD (o := 0) (n := 4) (mid := [w32 ((reachO n two).1).a, w32 ((reachO n two).1).b, w32 ((reachO n two).1).c, w32 ((reachO n two).1).d]) (oT hO s5_10 rfl) (B5_9.ext' hR) rfl rfl (nB rfl) row_24 rfl ⟨Ext.refl _, fun _ => rfl⟩
 refine Ask.guarded (B := ((reachO m one).2) && ((reachO n two).2)) (want := true) (t := 90) rfl rfl rfl rfl (by decide) (fun aq wq hO hR hT => hT 90 rfl rfl) (fun hG aq wq hNq hO hR hT => ?_) (fun hno _ => fun hc => absurd hc hno)
 exact does_eqT (a := (reachO m one).1) (b := (reachO n two).1) eq_24 (hT 91 rfl rfl hG) (hT 92 rfl rfl hG) ⟨Ext.refl _, fun _ => rfl⟩
 refine Ask.guarded (B := ((reachO m one).2) && ((reachO n two).2)) (want := true) (t := 90) rfl rfl rfl rfl (by decide) (fun aq wq hO hR hT => hT 90 rfl rfl) (fun hG aq wq hNq hO hR hT => ?_) (fun hno _ => ⟨fun hc => absurd hc hno, fun _ => rfl⟩)
 exact does_move (V := Value.bool (decide ((reachO m one).1 = (reachO n two).1))) (hT 93 rfl rfl hG) ⟨Ext.refl _, fun _ => rfl, fun hc => (by rw [hG] at hc; cases hc)⟩
 refine Ask.guarded2 (C := ((reachO m one).2) && ((reachO n two).2)) (B := decide ((reachO m one).1 = (reachO n two).1)) (want := false) (t := 94) rfl rfl rfl rfl (by decide) (fun aq wq hO hR hT => hT 94 rfl rfl) (fun hC hG aq wq hNq hO hR hT => ?_) (fun hno _ => fun hc => absurd ⟨andl hc, bn (andr hc)⟩ hno)
 replace hG := andi hC (nb hG)
 exact does_field (o' := 12) fld_40_3 (oT hO s1_10 rfl) rfl ⟨Ext.refl _, fun _ => rfl⟩
 refine Ask.guarded2 (C := ((reachO m one).2) && ((reachO n two).2)) (B := decide ((reachO m one).1 = (reachO n two).1)) (want := false) (t := 94) rfl rfl rfl rfl (by decide) (fun aq wq hO hR hT => hT 94 rfl rfl) (fun hC hG aq wq hNq hO hR hT => ?_) (fun hno _ => fun hc => absurd ⟨andl hc, bn (andr hc)⟩ hno)
 replace hG := andi hC (nb hG)
 exact does_field (o' := 12) fld_30_0 (hT 95 rfl rfl hG) rfl ⟨Ext.refl _, fun _ => rfl⟩
 refine Ask.guarded2 (C := ((reachO m one).2) && ((reachO n two).2)) (B := decide ((reachO m one).1 = (reachO n two).1)) (want := false) (t := 94) rfl rfl rfl rfl (by decide) (fun aq wq hO hR hT => hT 94 rfl rfl) (fun hC hG aq wq hNq hO hR hT => ?_) (fun hno _ => fun hc => absurd ⟨andl hc, bn (andr hc)⟩ hno)
 replace hG := andi hC (nb hG)
 exact does_loadD1 (o := 12) (V := i64 (i' : Int)) (hT 96 rfl rfl hG) (B1_9.ext' hR) rfl one_3 ⟨Ext.refl _, fun _ => rfl⟩
 refine Ask.guarded2 (C := ((reachO m one).2) && ((reachO n two).2)) (B := decide ((reachO m one).1 = (reachO n two).1)) (want := false) (t := 94) rfl rfl rfl rfl (by decide) (fun aq wq hO hR hT => hT 94 rfl rfl) (fun hC hG aq wq hNq hO hR hT => ?_) (fun hno _ => fun hc => absurd ⟨andl hc, bn (andr hc)⟩ hno)
 replace hG := andi hC (nb hG)
 exact does_loadD (o := 0) (n := 4) (mid := [w32 ((reachO m one).1).a, w32 ((reachO m one).1).b, w32 ((reachO m one).1).c, w32 ((reachO m one).1).d]) (oT hO s3_10 rfl) (B3_9.ext' hR) rfl rfl (nB rfl) row_24 rfl ⟨Ext.refl _, fun _ => rfl⟩
 refine Ask.guarded2 (C := ((reachO m one).2) && ((reachO n two).2)) (B := decide ((reachO m one).1 = (reachO n two).1)) (want := false) (t := 94) rfl rfl rfl rfl (by decide) (fun aq wq hO hR hT => hT 94 rfl rfl) (fun hC hG aq wq hNq hO hR hT => ?_) (fun hno _ => fun hc => absurd ⟨andl hc, bn (andr hc)⟩ hno)
 replace hG := andi hC (nb hG)
 exact does_field (o' := 12) fld_40_3 (oT hO s1_10 rfl) rfl ⟨Ext.refl _, fun _ => rfl⟩
 refine Ask.guarded2 (C := ((reachO m one).2) && ((reachO n two).2)) (B := decide ((reachO m one).1 = (reachO n two).1)) (want := false) (t := 94) rfl rfl rfl rfl (by decide) (fun aq wq hO hR hT => hT 94 rfl rfl) (fun hC hG aq wq hNq hO hR hT => ?_) (fun hno _ => fun hc => absurd ⟨andl hc, bn (andr hc)⟩ hno)
 replace hG := andi hC (nb hG)
 exact does_field (o' := 14) fld_30_2 (hT 99 rfl rfl hG) rfl ⟨Ext.refl _, fun _ => rfl⟩
 refine Ask.guarded2 (C := ((reachO m one).2) && ((reachO n two).2)) (B := decide ((reachO m one).1 = (reachO n two).1)) (want := false) (t := 94) rfl rfl rfl rfl (by decide) (fun aq wq hO hR hT => hT 94 rfl rfl) (fun hC hG aq wq hNq hO hR hT => ?_) (fun hno _ => fun hc => absurd ⟨andl hc, bn (andr hc)⟩ hno)
 replace hG := andi hC (nb hG)
 exact does_loadD1 (o := 14) (V := x2) (hT 100 rfl rfl hG) (B1_9.ext' hR) rfl one_27 ⟨Ext.refl _, fun _ => rfl⟩
 refine Ask.guarded2 (C := ((reachO m one).2) && ((reachO n two).2)) (B := decide ((reachO m one).1 = (reachO n two).1)) (want := false) (t := 94) rfl rfl rfl rfl (by decide) (fun aq wq hO hR hT => hT 94 rfl rfl) (fun hC hG aq wq hNq hO hR hT => ?_) (fun hno _ => fun hc => absurd ⟨andl hc, bn (andr hc)⟩ hno)
 replace hG := andi hC (nb hG)
 exact does_loadD (o := 0) (n := 4) (mid := [w32 ((reachO n two).1).a, w32 ((reachO n two).1).b, w32 ((reachO n two).1).c, w32 ((reachO n two).1).d]) (oT hO s5_10 rfl) (B5_9.ext' hR) rfl rfl (nB rfl) row_24 rfl ⟨Ext.refl _, fun _ => rfl⟩
 refine Ask.guarded2 (C := ((reachO m one).2) && ((reachO n two).2)) (B := decide ((reachO m one).1 = (reachO n two).1)) (want := false) (t := 94) rfl rfl rfl rfl (by decide) (fun aq wq hO hR hT => hT 94 rfl rfl) (fun hC hG aq wq hNq hO hR hT => ?_) (fun hno _ => fun hc => absurd ⟨andl hc, bn (andr hc)⟩ hno)
 replace hG := andi hC (nb hG)
 exact does_field (o' := 15) fld_40_4 (oT hO s1_10 rfl) rfl ⟨Ext.refl _, fun _ => rfl⟩
 refine Ask.guarded2 (C := ((reachO m one).2) && ((reachO n two).2)) (B := decide ((reachO m one).1 = (reachO n two).1)) (want := false) (t := 94) rfl rfl rfl rfl (by decide) (fun aq wq hO hR hT => hT 94 rfl rfl) (fun hC hG aq wq hNq hO hR hT => ?_) (fun hno _ => fun hc => absurd ⟨andl hc, bn (andr hc)⟩ hno)
 replace hG := andi hC (nb hG)
 exact does_field (o' := 17) fld_30_2 (hT 103 rfl rfl hG) rfl ⟨Ext.refl _, fun _ => rfl⟩
 refine Ask.guarded2 (C := ((reachO m one).2) && ((reachO n two).2)) (B := decide ((reachO m one).1 = (reachO n two).1)) (want := false) (t := 94) rfl rfl rfl rfl (by decide) (fun aq wq hO hR hT => hT 94 rfl rfl) (fun hC hG aq wq hNq hO hR hT => ?_) (fun hno _ => fun hc => absurd ⟨andl hc, bn (andr hc)⟩ hno)
 replace hG := andi hC (nb hG)
 exact does_loadD1 (o := 17) (V := x4) (hT 104 rfl rfl hG) (B1_9.ext' hR) rfl one_27 ⟨Ext.refl _, fun _ => rfl⟩
 refine Ask.guarded2 (C := ((reachO m one).2) && ((reachO n two).2)) (B := decide ((reachO m one).1 = (reachO n two).1)) (want := false) (t := 94) rfl rfl rfl rfl (by decide) (fun aq wq hO hR hT => hT 94 rfl rfl) (fun hC hG aq wq hNq hO hR hT => ?_) (fun hno _ => fun hc => absurd ⟨andl hc, bn (andr hc)⟩ hno)
 replace hG := andi hC (nb hG)
 exact does_ret (vs := #[i64 (i' : Int), Dg.val ((reachO m one).1), x2, Dg.val ((reachO n two).1), x4]) call_15 (args5 (hT 97 rfl rfl hG) (hT 98 rfl rfl hG) (hT 101 rfl rfl hG) (hT 102 rfl rfl hG) (hT 105 rfl rfl hG)) rfl ((clash06 i' ((reachO m one).1) path ((reachO n two).1) qath (x2) (x4) wq ((X2_9.ext' hR).wide (Nat.zero_le _) (.inl rfl)) ((X4_9.ext' hR).wide (Nat.zero_le _) (.inl rfl)) (by omega) (by omega)).mono fun v w2 h => ⟨h.2, fun _ => h.1⟩)
 refine Ask.guarded (B := ((reachO m one).2) && ((reachO n two).2)) (want := true) (t := 90) rfl rfl rfl rfl (by decide) (fun aq wq hO hR hT => hT 90 rfl rfl) (fun hG aq wq hNq hO hR hT => ?_) (fun hno _ => fun hc => absurd hc hno)
 exact does_or (B := decide ((reachO m one).1 = (reachO n two).1)) (X := clashK i' ((reachO m one).1) path ((reachO n two).1) qath) (And.left (hT 94 rfl rfl) hG) rfl (fun hB => (hT 106 rfl rfl (andi hG (nb hB)))) ⟨Ext.refl _, fun _ => rfl⟩
 exact Ap fun aq wq _ hO hR hT => does_and (B := ((reachO m one).2) && ((reachO n two).2)) (X := (decide ((reachO m one).1 = (reachO n two).1)) || (clashK i' ((reachO m one).1) path ((reachO n two).1) qath)) (hT 90 rfl rfl) (fun hB => (hT 107 rfl rfl hB)) rfl eR
 exact Ap fun aq wq _ hO hR hT => does_assign (V := Value.bool ((((reachO m one).2) && ((reachO n two).2)) && ((decide ((reachO m one).1 = (reachO n two).1)) || (clashK i' ((reachO m one).1) path ((reachO n two).1) qath)))) (hT 108 rfl rfl) eR
 intro a11 wd11 N11 D11 hO hR hA hU
 obtain ⟨_, _, _, _, _, _, _, _, _, _, _, _, _, _, _, _, _, _, _, _, _, _, _, t2, _⟩ := hA
 have E11 := E9.trans hR
 have B1_11 := B1_9.ext' hR
 have B3_11 := B3_9.ext' hR
 have B5_11 := B5_9.ext' hR
 have X1_11 := X1_9.ext' hR
 have X2_11 := X2_9.ext' hR
 have X3_11 := X3_9.ext' hR
 have X4_11 := X4_9.ext' hR
 have s2_11 : get a11 2 = Value.bool ((((reachO m one).2) && ((reachO n two).2)) && ((decide ((reachO m one).1 = (reachO n two).1)) || (clashK i' ((reachO m one).1) path ((reachO n two).1) qath))) := t2
 clear E9 N10 D10 s1_10 s3_10 s4_10 s5_10 s6_10 B1_9 B3_9 B5_9 X1_9 X2_9 X3_9 X4_9
 refine tail_nil ?_
 refine wp_ret ?_
 refine res_one (V := Value.bool ((((reachO m one).2) && ((reachO n two).2)) && ((decide ((reachO m one).1 = (reachO n two).1)) || (clashK i' ((reachO m one).1) path ((reachO n two).1) qath)))) rfl D11 s2_11 ?_
 obtain ⟨e1, e2, e3⟩ := keysClash_law hk1 hk2 hpq
 rw [hi', Int.toNat_natCast] at e3
 exact ⟨congrArg Value.bool (by rw [e1, e2]; simpa using e3), E11⟩

end Go.Proofs.YtaeohnkfmachfaaDoor
