/- The walks of functions of the program: printed. -/
import Derived.Test.YtaeohnkfmachfaaDoorKB
import Derived.Test.YtaeohnkfmachfaaDoorG70
import Derived.Test.YtaeohnkfmachfaaDoorG71
import Derived.Test.YtaeohnkfmachfaaDoorG107
import Derived.Test.YtaeohnkfmachfaaDoorF0
set_option maxRecDepth 100000
namespace Go.Proofs.YtaeohnkfmachfaaDoor
open Go Go.RowKit Sk Sd
theorem call_7 : Callable Tryd.prog 7 := ⟨_, Tryd.func7, by kernel_rfl, rfl⟩
theorem call_13 : Callable Tryd.prog 13 := ⟨_, Tryd.func13, by kernel_rfl, rfl⟩
theorem keysCheckLaw (pub msg : Dg) (i : Int) (one path : List Dg) (x1 x2 : Value) (w0 : World) (hL : Laid w0) (hx1 : SlT DG 0 0 one x1 w0) (hx2 : SlT DG 0 0 path x2 w0) :
    Gives Tryd.prog 4 #[Dg.val (pub), Dg.val (msg), Value.agg #[i64 (i), x1, x2]] w0 (Pr.ex (Value.bool true)) := by
 refine enter (N := 28) Tryd.func4 rfl rfl ?_
 intro a0 N0 D0 hA
 have s0_0 : get a0 0 = Dg.val (pub) := hA 0 _ rfl
 have s1_0 : get a0 1 = Dg.val (msg) := hA 1 _ rfl
 have s2_0 : get a0 2 = Value.agg #[i64 (i), x1, x2] := hA 2 _ rfl
 clear hA
 have E0 : Ext w0 w0 := Ext.refl w0
 have X1_0 := hx1.close
 have X2_0 := hx2.close
 refine wp_seq ?_
 refine Rl [3, 4, 5] [(3, Pr.box' w0.heap.size 24 [w32 (pub).a, w32 (pub).b, w32 (pub).c, w32 (pub).d]), (4, Pr.box' w0.heap.size 24 [w32 (msg).a, w32 (msg).b, w32 (msg).c, w32 (msg).d]), (5, Pr.box' w0.heap.size 30 [i64 (i), x1, x2]), (6, Pr.ex (Value.bool (false)))] 4 N0 D0 ?_ ?_
 refine Ac ?_ (Ac ?_ (Ac ?_ (Ac ?_ (Az _))))
 refine Ask.fresh rfl rfl ?_
 intro aq wq hNq hO hR hT
 exact does_box (V := Dg.val (pub)) (oT hO s0_0 rfl) (fun b w2 he hlo hb => ⟨he, ⟨b, rfl, Nat.le_trans hR.size' hlo, hb⟩, ⟨b, rfl, hlo, hb.lt⟩⟩)
 refine Ask.fresh rfl rfl ?_
 intro aq wq hNq hO hR hT
 exact does_box (V := Dg.val (msg)) (oT hO s1_0 rfl) (fun b w2 he hlo hb => ⟨he, ⟨b, rfl, Nat.le_trans hR.size' hlo, hb⟩, ⟨b, rfl, hlo, hb.lt⟩⟩)
 refine Ask.fresh rfl rfl ?_
 intro aq wq hNq hO hR hT
 exact does_box (V := Value.agg #[i64 (i), x1, x2]) (oT hO s2_0 rfl) (fun b w2 he hlo hb => ⟨he, ⟨b, rfl, Nat.le_trans hR.size' hlo, hb⟩, ⟨b, rfl, hlo, hb.lt⟩⟩)
 exact Ap fun aq wq _ hO hR hT => does_assign (V := Value.bool (false)) rfl eR
 intro a1 wd1 N1 D1 hO hR hA hU
 obtain ⟨t3, t4, t5, _, _⟩ := hA
 have E1 := E0.trans hR
 have X1_1 := X1_0.ext' hR
 have X2_1 := X2_0.ext' hR
 obtain ⟨b3, s3_1, lo_b3, B3_1⟩ := t3
 have nb_x1_b3 := SlT.old X1_0 lo_b3
 have nb_x2_b3 := SlT.old X2_0 lo_b3
 have fr_b3 : w0.heap.size ≤ b3 := Nat.le_trans E0.size' lo_b3
 obtain ⟨b4, s4_1, lo_b4, B4_1⟩ := t4
 have nb_x1_b4 := SlT.old X1_0 lo_b4
 have nb_x2_b4 := SlT.old X2_0 lo_b4
 have fr_b4 : w0.heap.size ≤ b4 := Nat.le_trans E0.size' lo_b4
 obtain ⟨b5, s5_1, lo_b5, B5_1⟩ := t5
 have nb_x1_b5 := SlT.old X1_0 lo_b5
 have nb_x2_b5 := SlT.old X2_0 lo_b5
 have fr_b5 : w0.heap.size ≤ b5 := Nat.le_trans E0.size' lo_b5
 obtain ⟨u0, ⟨u1, ⟨u2, _⟩⟩⟩ := hU
 have ne_b3_b4 : b3 ≠ b4 := fun e => u0 4 (by decide) (by rw [s3_1, s4_1, e])
 have ne_b3_b5 : b3 ≠ b5 := fun e => u0 5 (by decide) (by rw [s3_1, s5_1, e])
 have ne_b4_b5 : b4 ≠ b5 := fun e => u1 5 (by decide) (by rw [s4_1, s5_1, e])
 clear E0 N0 D0 s0_0 s1_0 s2_0 X1_0 X2_0
 refine tail_nil ?_
 refine wp_seq ?_
 refine wp_seq ?_
 refine Rl [] [(7, Pr.ex (Value.bool (true))), (8, Pr.ex (Value.bool (false)))] 2 N1 D1 ?_ ?_
 refine Ac ?_ (Ac ?_ (Az _))
 exact Ap fun aq wq _ hO hR hT => does_ret (vs := #[]) call_7 args0 rfl ((awake06 wq (hL.ext (E1.trans hR))).mono fun v w2 h => ⟨h.2, h.1⟩)
 exact Ap fun aq wq _ hO hR hT => does_not (B := true) (hT 7 rfl rfl) eR
 intro a2 wd2 N2 D2 hO hR hA hU
 obtain ⟨_, t8, _⟩ := hA
 have E2 := E1.trans hR
 have s3_2 := oT hO s3_1 rfl
 have s4_2 := oT hO s4_1 rfl
 have s5_2 := oT hO s5_1 rfl
 have B3_2 := B3_1.ext' hR
 have B4_2 := B4_1.ext' hR
 have B5_2 := B5_1.ext' hR
 have X1_2 := X1_1.ext' hR
 have X2_2 := X2_1.ext' hR
 have s8_2 : get a2 8 = Value.bool (false) := t8
 clear E1 N1 D1 s3_1 s4_1 s5_1 B3_1 B4_1 B5_1 X1_1 X2_1
 refine tail_nil ?_
 refine wp_ifF s8_2 ?_
 refine wp_skip ?_
 refine wp_seq ?_
 refine wp_seq ?_
 refine Rl [] [(9, Pr.ex (Value.pointer (some ⟨b5, 1, none⟩))), (10, Pr.ex (x1)), (11, Pr.ex (i64 (one.length : Int))), (12, Pr.ex (Value.bool (decide (((40 : Nat) : Int) < (one.length : Int))))), (13, Pr.ex (Value.bool (decide (((40 : Nat) : Int) < (one.length : Int))))), (14, Pr.ifb (!(decide (((40 : Nat) : Int) < (one.length : Int)))) (Pr.ex (Value.pointer (some ⟨b5, 2, none⟩)))), (15, Pr.ifb (!(decide (((40 : Nat) : Int) < (one.length : Int)))) (Pr.ex (x2))), (16, Pr.ifb (!(decide (((40 : Nat) : Int) < (one.length : Int)))) (Pr.ex (i64 (path.length : Int)))), (17, Pr.ifb (!(decide (((40 : Nat) : Int) < (one.length : Int)))) (Pr.ex (Value.bool (decide (((6 : Nat) : Int) < (path.length : Int)))))), (18, Pr.ex (Value.bool ((decide (((40 : Nat) : Int) < (one.length : Int))) || (decide (((6 : Nat) : Int) < (path.length : Int))))))] 10 N2 D2 ?_ ?_
 refine Ac ?_ (Ac ?_ (Ac ?_ (Ac ?_ (Ac ?_ (Ac ?_ (Ac ?_ (Ac ?_ (Ac ?_ (Ac ?_ (Az _))))))))))
 exact Ap fun aq wq _ hO hR hT => does_field (o' := 1) fld_30_1 (oT hO s5_2 rfl) rfl eR
 exact Ap fun aq wq _ hO hR hT => does_loadD1 (o := 1) (V := x1) (hT 9 rfl rfl) (B5_2.ext' hR) rfl one_28 eR
 exact Ap fun aq wq _ hO hR hT => does_len (T := DG) (xs := one) sli_28 (SlT.at (hT 10 rfl rfl) (X1_2.ext' hR)) eR
 exact Ap fun aq wq _ hO hR hT => does_gtr (a := (one.length : Int)) (b := ((40 : Nat) : Int)) (hT 11 rfl rfl) rfl eR
 exact Ap fun aq wq _ hO hR hT => does_move (V := Value.bool (decide (((40 : Nat) : Int) < (one.length : Int)))) (hT 12 rfl rfl) eR
 refine Ask.guarded (B := decide (((40 : Nat) : Int) < (one.length : Int))) (want := false) (t := 13) rfl rfl rfl rfl (by decide) (fun aq wq hO hR hT => hT 13 rfl rfl) (fun hG aq wq hNq hO hR hT => ?_) (fun hno _ => fun hc => absurd (bn hc) hno)
 replace hG := nb hG
 exact does_field (o' := 2) fld_30_2 (oT hO s5_2 rfl) rfl ⟨Ext.refl _, fun _ => rfl⟩
 refine Ask.guarded (B := decide (((40 : Nat) : Int) < (one.length : Int))) (want := false) (t := 13) rfl rfl rfl rfl (by decide) (fun aq wq hO hR hT => hT 13 rfl rfl) (fun hG aq wq hNq hO hR hT => ?_) (fun hno _ => fun hc => absurd (bn hc) hno)
 replace hG := nb hG
 exact does_loadD1 (o := 2) (V := x2) (hT 14 rfl rfl hG) (B5_2.ext' hR) rfl one_27 ⟨Ext.refl _, fun _ => rfl⟩
 refine Ask.guarded (B := decide (((40 : Nat) : Int) < (one.length : Int))) (want := false) (t := 13) rfl rfl rfl rfl (by decide) (fun aq wq hO hR hT => hT 13 rfl rfl) (fun hG aq wq hNq hO hR hT => ?_) (fun hno _ => fun hc => absurd (bn hc) hno)
 replace hG := nb hG
 exact does_len (T := DG) (xs := path) sli_27 (SlT.at (hT 15 rfl rfl hG) (X2_2.ext' hR)) ⟨Ext.refl _, fun _ => rfl⟩
 refine Ask.guarded (B := decide (((40 : Nat) : Int) < (one.length : Int))) (want := false) (t := 13) rfl rfl rfl rfl (by decide) (fun aq wq hO hR hT => hT 13 rfl rfl) (fun hG aq wq hNq hO hR hT => ?_) (fun hno _ => fun hc => absurd (bn hc) hno)
 replace hG := nb hG
 exact does_gtr (a := (path.length : Int)) (b := ((6 : Nat) : Int)) (hT 16 rfl rfl hG) rfl ⟨Ext.refl _, fun _ => rfl⟩
 exact Ap fun aq wq _ hO hR hT => does_or (B := decide (((40 : Nat) : Int) < (one.length : Int))) (X := decide (((6 : Nat) : Int) < (path.length : Int))) (hT 13 rfl rfl) rfl (fun hB => (hT 17 rfl rfl (nb hB))) eR
 intro a3 wd3 N3 D3 hO hR hA hU
 obtain ⟨_, _, _, _, _, _, _, _, _, t18, _⟩ := hA
 have E3 := E2.trans hR
 have s3_3 := oT hO s3_2 rfl
 have s4_3 := oT hO s4_2 rfl
 have s5_3 := oT hO s5_2 rfl
 have B3_3 := B3_2.ext' hR
 have B4_3 := B4_2.ext' hR
 have B5_3 := B5_2.ext' hR
 have X1_3 := X1_2.ext' hR
 have X2_3 := X2_2.ext' hR
 have s18_3 : get a3 18 = Value.bool ((decide (((40 : Nat) : Int) < (one.length : Int))) || (decide (((6 : Nat) : Int) < (path.length : Int)))) := t18
 clear E2 N2 D2 s3_2 s4_2 s5_2 s8_2 B3_2 B4_2 B5_2 X1_2 X2_2
 refine tail_nil ?_
 refine wp_if (B := (decide (((40 : Nat) : Int) < (one.length : Int))) || (decide (((6 : Nat) : Int) < (path.length : Int)))) s18_3 (fun hc0 => ?_) (fun hc0 => ?_)
 refine wp_seq ?_
 refine Rl [] [(6, Pr.ex (Value.bool (true)))] 1 N3 D3 ?_ ?_
 refine Ac ?_ (Az _)
 exact Ap fun aq wq _ hO hR hT => does_assign (V := Value.bool (true)) rfl eR
 intro a4 wd4 N4 D4 hO hR hA hU
 obtain ⟨t6, _⟩ := hA
 have E4 := E3.trans hR
 have B3_4 := B3_3.ext' hR
 have B4_4 := B4_3.ext' hR
 have B5_4 := B5_3.ext' hR
 have X1_4 := X1_3.ext' hR
 have X2_4 := X2_3.ext' hR
 have s6_4 : get a4 6 = Value.bool (true) := t6
 clear E3 N3 D3 s3_3 s4_3 s5_3 s18_3 B3_3 B4_3 B5_3 X1_3 X2_3
 refine tail_nil ?_
 refine wp_ret ?_
 refine res_one (V := Value.bool (true)) rfl D4 s6_4 ?_
 exact ⟨rfl, E4⟩
 have h46 : one.length ≤ 40 ∧ path.length ≤ 6 := by simp at hc0; omega
 have hn : one.length ≤ 100000 := by omega
 have hpn : path.length ≤ 100000 := by omega
 refine wp_skip ?_
 refine wp_seq ?_
 refine Ra [] [(19, Pr.ex (Dg.val (pub))), (20, Pr.ex (Dg.val (msg))), (21, Pr.ex (Value.agg #[i64 (i), x1, x2])), (22, Pr.ex (Value.bool (keyCheck pub msg (i) one path))), (23, Pr.ex (Dg.val (pub))), (24, Pr.ex (Dg.val (msg))), (25, Pr.ex (Value.agg #[i64 (i), x1, x2])), (26, Pr.ex (Value.bool (keyCheck pub msg (i) one path))), (27, Pr.ex (Value.bool (((keyCheck pub msg (i) one path) == (keyCheck pub msg (i) one path))))), (6, Pr.ex (Value.bool (((keyCheck pub msg (i) one path) == (keyCheck pub msg (i) one path)))))] 10 mixed N3 D3 ?_ ?_
 refine Ac ?_ (Ac ?_ (Ac ?_ (Ac ?_ (Ac ?_ (Ac ?_ (Ac ?_ (Ac ?_ (Ac ?_ (Ac ?_ (Az _))))))))))
 exact Ad fun aq wq _ hO hR hT => does_loadD (o := 0) (n := 4) (mid := [w32 (pub).a, w32 (pub).b, w32 (pub).c, w32 (pub).d]) (oT hO s3_3 rfl) (B3_3.ext' hR) rfl rfl (nB rfl) row_24 rfl eR
 exact Ad fun aq wq _ hO hR hT => does_loadD (o := 0) (n := 4) (mid := [w32 (msg).a, w32 (msg).b, w32 (msg).c, w32 (msg).d]) (oT hO s4_3 rfl) (B4_3.ext' hR) rfl rfl (nB rfl) row_24 rfl eR
 exact Ad fun aq wq _ hO hR hT => does_loadD (o := 0) (n := 3) (mid := [i64 (i), x1, x2]) (oT hO s5_3 rfl) (B5_3.ext' hR) rfl rfl (nB rfl) row_30 rfl eR
 exact Ad fun aq wq _ hO hR hT => does_ret (vs := #[Dg.val (pub), Dg.val (msg), Value.agg #[i64 (i), x1, x2]]) call_12 (args3 (hT 19 rfl rfl) (hT 20 rfl rfl) (hT 21 rfl rfl)) rfl ((keyCheck_ pub msg (i) one path (x1) (x2) wq (hL.ext (E3.trans hR)) ((X1_3.ext' hR).wide (Nat.zero_le _) (.inl rfl)) ((X2_3.ext' hR).wide (Nat.zero_le _) (.inl rfl)) hn hpn).mono fun v w2 h => ⟨h.2, h.1⟩)
 exact Ad fun aq wq _ hO hR hT => does_loadD (o := 0) (n := 4) (mid := [w32 (pub).a, w32 (pub).b, w32 (pub).c, w32 (pub).d]) (oT hO s3_3 rfl) (B3_3.ext' hR) rfl rfl (nB rfl) row_24 rfl eR
 exact Ad fun aq wq _ hO hR hT => does_loadD (o := 0) (n := 4) (mid := [w32 (msg).a, w32 (msg).b, w32 (msg).c, w32 (msg).d]) (oT hO s4_3 rfl) (B4_3.ext' hR) rfl rfl (nB rfl) row_24 rfl eR
 exact Ad fun aq wq _ hO hR hT => does_loadD (o := 0) (n := 3) (mid := [i64 (i), x1, x2]) (oT hO s5_3 rfl) (B5_3.ext' hR) rfl rfl (nB rfl) row_30 rfl eR
 exact Ad fun aq wq _ hO hR hT => does_ret (vs := #[Dg.val (pub), Dg.val (msg), Value.agg #[i64 (i), x1, x2]]) call_13 (args3 (hT 23 rfl rfl) (hT 24 rfl rfl) (hT 25 rfl rfl)) rfl ((keyCheckR pub msg (i) one path (x1) (x2) wq ((X1_3.ext' hR).wide (Nat.zero_le _) (.inl rfl)) ((X2_3.ext' hR).wide (Nat.zero_le _) (.inl rfl)) hn hpn).mono fun v w2 h => ⟨h.2, h.1⟩)
 exact Ad fun aq wq _ hO hR hT => does_eqB Tryd.underlying4 (hT 22 rfl rfl) (hT 26 rfl rfl) eR
 exact Ad fun aq wq _ hO hR hT => does_assign (V := Value.bool (((keyCheck pub msg (i) one path) == (keyCheck pub msg (i) one path)))) (hT 27 rfl rfl) eR
 intro a5 wd5 N5 D5 hO hR hA hU
 obtain ⟨_, _, _, _, _, _, _, _, _, t6, _⟩ := hA
 have E5 := E3.trans hR
 have B3_5 := B3_3.ext' hR
 have B4_5 := B4_3.ext' hR
 have B5_5 := B5_3.ext' hR
 have X1_5 := X1_3.ext' hR
 have X2_5 := X2_3.ext' hR
 have s6_5 : get a5 6 = Value.bool (((keyCheck pub msg (i) one path) == (keyCheck pub msg (i) one path))) := t6
 clear E3 N3 D3 s3_3 s4_3 s5_3 s18_3 B3_3 B4_3 B5_3 X1_3 X2_3
 refine tail_nil ?_
 refine wp_ret ?_
 refine res_one (V := Value.bool (((keyCheck pub msg (i) one path) == (keyCheck pub msg (i) one path)))) rfl D5 s6_5 ?_
 exact ⟨congrArg Value.bool (by simp), E5⟩

end Go.Proofs.YtaeohnkfmachfaaDoor
