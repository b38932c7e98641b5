/- The walks of functions of the program: printed. -/
import Derived.Test.YtmmghpbncejfiaaDoorK
import Derived.Test.YtmmghpbncejfiaaDoorG20
import Derived.Test.YtmmghpbncejfiaaDoorG21
import Derived.Test.YtmmghpbncejfiaaDoorG22
import Derived.Test.YtmmghpbncejfiaaDoorG50
import Derived.Test.YtmmghpbncejfiaaDoorF0
set_option maxRecDepth 100000
namespace Go.Proofs.YtmmghpbncejfiaaDoor
open Go Go.RowKit Sk Sd
theorem check_ (r : Dg) (n i : Int) (leaf : Dg) (l : List Dg) (x1 : Value) (w0 : World) (hL : Laid w0) (hx1 : SlT DG 0 0 l x1 w0) (hn : l.length ≤ 100000) :
    Gives Tryd.prog 41 #[Dg.val (r), i64 (n), i64 (i), Dg.val (leaf), x1] w0 (Pr.ex (Value.bool (checks r n i leaf l))) := by
 refine enter (N := 46) Tryd.func41 rfl rfl ?_
 intro a0 N0 D0 hA
 have s0_0 : get a0 0 = Dg.val (r) := hA 0 _ rfl
 have s1_0 : get a0 1 = i64 (n) := hA 1 _ rfl
 have s2_0 : get a0 2 = i64 (i) := hA 2 _ rfl
 have s3_0 : get a0 3 = Dg.val (leaf) := hA 3 _ rfl
 have s4_0 : get a0 4 = x1 := hA 4 _ rfl
 clear hA
 have E0 : Ext w0 w0 := Ext.refl w0
 have hw0 := Laid.pos hL
 have X1_0 := hx1.close
 refine wp_seq ?_
 refine Rl [5, 8] [(5, Pr.box' w0.heap.size 24 [w32 (r).a, w32 (r).b, w32 (r).c, w32 (r).d]), (8, Pr.box' w0.heap.size 24 [w32 (leaf).a, w32 (leaf).b, w32 (leaf).c, w32 (leaf).d]), (10, Pr.ex (Value.bool (false)))] 3 N0 D0 ?_ ?_
 refine Ac ?_ (Ac ?_ (Ac ?_ (Az _)))
 refine Ask.fresh rfl rfl ?_
 intro aq wq hNq hO hR hT
 exact does_box (V := Dg.val (r)) (oT hO s0_0 rfl) (fun b w2 he hlo hb => ⟨he, ⟨b, rfl, Nat.le_trans hR.size' hlo, hb⟩, ⟨b, rfl, hlo, hb.lt⟩⟩)
 refine Ask.fresh rfl rfl ?_
 intro aq wq hNq hO hR hT
 exact does_box (V := Dg.val (leaf)) (oT hO s3_0 rfl) (fun b w2 he hlo hb => ⟨he, ⟨b, rfl, Nat.le_trans hR.size' hlo, hb⟩, ⟨b, rfl, hlo, hb.lt⟩⟩)
 exact Ap fun aq wq _ hO hR hT => does_assign (V := Value.bool (false)) rfl eR
 intro a1 wd1 N1 D1 hO hR hA hU
 obtain ⟨t5, t8, _, _⟩ := hA
 have E1 := E0.trans hR
 have s1_1 := oT hO s1_0 rfl
 have s2_1 := oT hO s2_0 rfl
 have s4_1 := oT hO s4_0 rfl
 have X1_1 := X1_0.ext' hR
 obtain ⟨b5, s5_1, lo_b5, B5_1⟩ := t5
 have nb_x1_b5 := SlT.old X1_0 lo_b5
 have fr_b5 : w0.heap.size ≤ b5 := Nat.le_trans E0.size' lo_b5
 obtain ⟨b8, s8_1, lo_b8, B8_1⟩ := t8
 have nb_x1_b8 := SlT.old X1_0 lo_b8
 have fr_b8 : w0.heap.size ≤ b8 := Nat.le_trans E0.size' lo_b8
 obtain ⟨u0, ⟨u1, _⟩⟩ := hU
 have ne_b5_b8 : b5 ≠ b8 := fun e => u0 8 (by decide) (by rw [s5_1, s8_1, e])
 clear E0 N0 D0 s0_0 s1_0 s2_0 s3_0 s4_0 X1_0
 refine tail_nil ?_
 refine wp_seq ?_
 refine wp_seq ?_
 refine Rl [] [(13, Pr.ex (i64 (n))), (14, Pr.ex (Value.bool (decide (((1000 : Nat) : Int) < n)))), (15, Pr.ex (Value.bool (decide (((1000 : Nat) : Int) < n)))), (16, Pr.ifb (!(decide (((1000 : Nat) : Int) < n))) (Pr.ex (i64 (i)))), (17, Pr.ifb (!(decide (((1000 : Nat) : Int) < n))) (Pr.ex (Value.bool (decide (i < ((0 : Nat) : Int)))))), (18, Pr.ex (Value.bool ((decide (((1000 : Nat) : Int) < n)) || (decide (i < ((0 : Nat) : Int)))))), (19, Pr.ex (Value.bool ((decide (((1000 : Nat) : Int) < n)) || (decide (i < ((0 : Nat) : Int)))))), (20, Pr.ifb (!((decide (((1000 : Nat) : Int) < n)) || (decide (i < ((0 : Nat) : Int))))) (Pr.ex (i64 (i)))), (21, Pr.ifb (!((decide (((1000 : Nat) : Int) < n)) || (decide (i < ((0 : Nat) : Int))))) (Pr.ex (i64 (n)))), (22, Pr.ifb (!((decide (((1000 : Nat) : Int) < n)) || (decide (i < ((0 : Nat) : Int))))) (Pr.ex (Value.bool (decide (n ≤ i))))), (23, Pr.ex (Value.bool (((decide (((1000 : Nat) : Int) < n)) || (decide (i < ((0 : Nat) : Int)))) || (decide (n ≤ i))))), (24, Pr.ex (Value.bool (((decide (((1000 : Nat) : Int) < n)) || (decide (i < ((0 : Nat) : Int)))) || (decide (n ≤ i))))), (25, Pr.ifb (!(((decide (((1000 : Nat) : Int) < n)) || (decide (i < ((0 : Nat) : Int)))) || (decide (n ≤ i)))) (Pr.ex (x1))), (26, Pr.ifb (!(((decide (((1000 : Nat) : Int) < n)) || (decide (i < ((0 : Nat) : Int)))) || (decide (n ≤ i)))) (Pr.ex (i64 (l.length : Int)))), (27, Pr.ifb (!(((decide (((1000 : Nat) : Int) < n)) || (decide (i < ((0 : Nat) : Int)))) || (decide (n ≤ i)))) (Pr.ex (i64 (n)))), (28, Pr.ifb (!(((decide (((1000 : Nat) : Int) < n)) || (decide (i < ((0 : Nat) : Int)))) || (decide (n ≤ i)))) (Pr.ex (Value.bool (decide (n < (l.length : Int)))))), (29, Pr.ex (Value.bool ((((decide (((1000 : Nat) : Int) < n)) || (decide (i < ((0 : Nat) : Int)))) || (decide (n ≤ i))) || (decide (n < (l.length : Int))))))] 17 N1 D1 ?_ ?_
 refine Ac ?_ (Ac ?_ (Ac ?_ (Ac ?_ (Ac ?_ (Ac ?_ (Ac ?_ (Ac ?_ (Ac ?_ (Ac ?_ (Ac ?_ (Ac ?_ (Ac ?_ (Ac ?_ (Ac ?_ (Ac ?_ (Ac ?_ (Az _)))))))))))))))))
 exact Am s1_1 rfl fun _ => rfl
 exact Ap fun aq wq _ hO hR hT => does_gtr (a := n) (b := ((1000 : Nat) : Int)) (hT 13 rfl rfl) rfl eR
 exact Ap fun aq wq _ hO hR hT => does_move (V := Value.bool (decide (((1000 : Nat) : Int) < n))) (hT 14 rfl rfl) eR
 refine Ask.guarded (B := decide (((1000 : Nat) : Int) < n)) (want := false) (t := 15) rfl rfl rfl rfl (by decide) (fun aq wq hO hR hT => hT 15 rfl rfl) (fun hG aq wq hNq hO hR hT => ?_) (fun hno _ => fun hc => absurd (bn hc) hno)
 replace hG := nb hG
 exact does_move (V := i64 (i)) (oT hO s2_1 rfl) ⟨Ext.refl _, fun _ => rfl⟩
 refine Ask.guarded (B := decide (((1000 : Nat) : Int) < n)) (want := false) (t := 15) rfl rfl rfl rfl (by decide) (fun aq wq hO hR hT => hT 15 rfl rfl) (fun hG aq wq hNq hO hR hT => ?_) (fun hno _ => fun hc => absurd (bn hc) hno)
 replace hG := nb hG
 exact does_lss (a := i) (b := ((0 : Nat) : Int)) (hT 16 rfl rfl hG) rfl ⟨Ext.refl _, fun _ => rfl⟩
 exact Ap fun aq wq _ hO hR hT => does_or (B := decide (((1000 : Nat) : Int) < n)) (X := decide (i < ((0 : Nat) : Int))) (hT 15 rfl rfl) rfl (fun hB => (hT 17 rfl rfl (nb hB))) eR
 exact Ap fun aq wq _ hO hR hT => does_move (V := Value.bool ((decide (((1000 : Nat) : Int) < n)) || (decide (i < ((0 : Nat) : Int))))) (hT 18 rfl rfl) eR
 refine Ask.guarded (B := (decide (((1000 : Nat) : Int) < n)) || (decide (i < ((0 : Nat) : Int)))) (want := false) (t := 19) rfl rfl rfl rfl (by decide) (fun aq wq hO hR hT => hT 19 rfl rfl) (fun hG aq wq hNq hO hR hT => ?_) (fun hno _ => fun hc => absurd (bn hc) hno)
 replace hG := nb hG
 exact does_move (V := i64 (i)) (oT hO s2_1 rfl) ⟨Ext.refl _, fun _ => rfl⟩
 refine Ask.guarded (B := (decide (((1000 : Nat) : Int) < n)) || (decide (i < ((0 : Nat) : Int)))) (want := false) (t := 19) rfl rfl rfl rfl (by decide) (fun aq wq hO hR hT => hT 19 rfl rfl) (fun hG aq wq hNq hO hR hT => ?_) (fun hno _ => fun hc => absurd (bn hc) hno)
 replace hG := nb hG
 exact does_move (V := i64 (n)) (oT hO s1_1 rfl) ⟨Ext.refl _, fun _ => rfl⟩
 refine Ask.guarded (B := (decide (((1000 : Nat) : Int) < n)) || (decide (i < ((0 : Nat) : Int)))) (want := false) (t := 19) rfl rfl rfl rfl (by decide) (fun aq wq hO hR hT => hT 19 rfl rfl) (fun hG aq wq hNq hO hR hT => ?_) (fun hno _ => fun hc => absurd (bn hc) hno)
 replace hG := nb hG
 exact does_geq (a := i) (b := n) (hT 20 rfl rfl hG) (hT 21 rfl rfl hG) ⟨Ext.refl _, fun _ => rfl⟩
 exact Ap fun aq wq _ hO hR hT => does_or (B := (decide (((1000 : Nat) : Int) < n)) || (decide (i < ((0 : Nat) : Int)))) (X := decide (n ≤ i)) (hT 19 rfl rfl) rfl (fun hB => (hT 22 rfl rfl (nb hB))) eR
 exact Ap fun aq wq _ hO hR hT => does_move (V := Value.bool (((decide (((1000 : Nat) : Int) < n)) || (decide (i < ((0 : Nat) : Int)))) || (decide (n ≤ i)))) (hT 23 rfl rfl) eR
 refine Ask.guarded (B := ((decide (((1000 : Nat) : Int) < n)) || (decide (i < ((0 : Nat) : Int)))) || (decide (n ≤ i))) (want := false) (t := 24) rfl rfl rfl rfl (by decide) (fun aq wq hO hR hT => hT 24 rfl rfl) (fun hG aq wq hNq hO hR hT => ?_) (fun hno _ => fun hc => absurd (bn hc) hno)
 replace hG := nb hG
 exact does_move (V := x1) (oT hO s4_1 rfl) ⟨Ext.refl _, fun _ => rfl⟩
 refine Ask.guarded (B := ((decide (((1000 : Nat) : Int) < n)) || (decide (i < ((0 : Nat) : Int)))) || (decide (n ≤ i))) (want := false) (t := 24) rfl rfl rfl rfl (by decide) (fun aq wq hO hR hT => hT 24 rfl rfl) (fun hG aq wq hNq hO hR hT => ?_) (fun hno _ => fun hc => absurd (bn hc) hno)
 replace hG := nb hG
 exact does_len (T := DG) (xs := l) sli_27 (SlT.at (hT 25 rfl rfl hG) (X1_1.ext' hR)) ⟨Ext.refl _, fun _ => rfl⟩
 refine Ask.guarded (B := ((decide (((1000 : Nat) : Int) < n)) || (decide (i < ((0 : Nat) : Int)))) || (decide (n ≤ i))) (want := false) (t := 24) rfl rfl rfl rfl (by decide) (fun aq wq hO hR hT => hT 24 rfl rfl) (fun hG aq wq hNq hO hR hT => ?_) (fun hno _ => fun hc => absurd (bn hc) hno)
 replace hG := nb hG
 exact does_move (V := i64 (n)) (oT hO s1_1 rfl) ⟨Ext.refl _, fun _ => rfl⟩
 refine Ask.guarded (B := ((decide (((1000 : Nat) : Int) < n)) || (decide (i < ((0 : Nat) : Int)))) || (decide (n ≤ i))) (want := false) (t := 24) rfl rfl rfl rfl (by decide) (fun aq wq hO hR hT => hT 24 rfl rfl) (fun hG aq wq hNq hO hR hT => ?_) (fun hno _ => fun hc => absurd (bn hc) hno)
 replace hG := nb hG
 exact does_gtr (a := (l.length : Int)) (b := n) (hT 26 rfl rfl hG) (hT 27 rfl rfl hG) ⟨Ext.refl _, fun _ => rfl⟩
 exact Ap fun aq wq _ hO hR hT => does_or (B := ((decide (((1000 : Nat) : Int) < n)) || (decide (i < ((0 : Nat) : Int)))) || (decide (n ≤ i))) (X := decide (n < (l.length : Int))) (hT 24 rfl rfl) rfl (fun hB => (hT 28 rfl rfl (nb hB))) eR
 intro a2 wd2 N2 D2 hO hR hA hU
 obtain ⟨_, _, _, _, _, _, _, _, _, _, _, _, _, _, _, _, t29, _⟩ := hA
 have E2 := E1.trans hR
 have s1_2 := oT hO s1_1 rfl
 have s2_2 := oT hO s2_1 rfl
 have s4_2 := oT hO s4_1 rfl
 have s5_2 := oT hO s5_1 rfl
 have s8_2 := oT hO s8_1 rfl
 have B5_2 := B5_1.ext' hR
 have B8_2 := B8_1.ext' hR
 have X1_2 := X1_1.ext' hR
 have s29_2 : get a2 29 = Value.bool ((((decide (((1000 : Nat) : Int) < n)) || (decide (i < ((0 : Nat) : Int)))) || (decide (n ≤ i))) || (decide (n < (l.length : Int)))) := t29
 clear E1 N1 D1 s1_1 s2_1 s4_1 s5_1 s8_1 B5_1 B8_1 X1_1
 refine tail_nil ?_
 refine wp_if (B := (((decide (((1000 : Nat) : Int) < n)) || (decide (i < ((0 : Nat) : Int)))) || (decide (n ≤ i))) || (decide (n < (l.length : Int)))) s29_2 (fun hc0 => ?_) (fun hc0 => ?_)
 have hb := or4 hc0
 refine wp_seq ?_
 refine Rl [] [(10, Pr.ex (Value.bool (false)))] 1 N2 D2 ?_ ?_
 refine Ac ?_ (Az _)
 exact Ap fun aq wq _ hO hR hT => does_assign (V := Value.bool (false)) rfl eR
 intro a3 wd3 N3 D3 hO hR hA hU
 obtain ⟨t10, _⟩ := hA
 have E3 := E2.trans hR
 have B5_3 := B5_2.ext' hR
 have B8_3 := B8_2.ext' hR
 have X1_3 := X1_2.ext' hR
 have s10_3 : get a3 10 = Value.bool (false) := t10
 clear E2 N2 D2 s1_2 s2_2 s4_2 s5_2 s8_2 s29_2 B5_2 B8_2 X1_2
 refine tail_nil ?_
 refine wp_ret ?_
 refine res_one (V := Value.bool (false)) rfl D3 s10_3 ?_
 exact ⟨by show Value.bool _ = Value.bool _; rw [check_wrong (fun h => by omega)], E3⟩
 obtain ⟨hb1, hb2, hb3, hb4⟩ := nor4 hc0
 have hb : n ≤ 1000 ∧ 0 ≤ i ∧ i < n := ⟨by omega, by omega, by omega⟩
 refine wp_skip ?_
 refine wp_seq ?_
 refine Rl [] [(30, Pr.ex (x1)), (31, Pr.own' DG wd2.heap.size 24 (l)), (32, Pr.ag (fun x => Value.agg #[x, Value.bool (true)]) (Pr.own' DG wd2.heap.size 24 (l)))] 3 N2 D2 ?_ ?_
 refine Ac ?_ (Ac ?_ (Ac ?_ (Az _)))
 exact Am s4_2 rfl fun _ => rfl
 exact Ap fun aq wq _ hO hR hT => does_ret (vs := #[x1]) call_42 (args1 (hT 30 rfl rfl)) rfl ((clone_ (l) (x1) wq ((X1_2.ext' hR).wide (Nat.zero_le _) (.inl rfl)) (by omega)).mono fun v w2 h => ⟨h.2, OwnT.base h.1 hR.size'⟩)
 exact Ap fun aq wq _ hO hR hT => does_build (vs := #[(0, get aq 31), (1, Value.bool (true))]) (V := Value.agg #[get aq 31, Value.bool (true)]) (parts2 rfl rfl) (by obtain ⟨sa0, sc0, hv0, _⟩ := (OwnT.sl (hT 31 rfl rfl)); rw [hv0]; kernel_rfl) ⟨Ext.refl _, ⟨get aq 31, rfl, (hT 31 rfl rfl)⟩⟩
 intro a4 wd4 N4 D4 hO hR hA hU
 obtain ⟨_, _, t32, _⟩ := hA
 have E4 := E2.trans hR
 have s1_4 := oT hO s1_2 rfl
 have s2_4 := oT hO s2_2 rfl
 have s5_4 := oT hO s5_2 rfl
 have s8_4 := oT hO s8_2 rfl
 have B5_4 := B5_2.ext' hR
 have B8_4 := B8_2.ext' hR
 have X1_4 := X1_2.ext' hR
 obtain ⟨x32_0_4, s32_4, ky32_0_4⟩ := t32
 replace ky32_0_4 : OwnT DG wd2.heap.size 24 (l) x32_0_4 wd4 := ky32_0_4
 have nbo_x32_0_4_b5 := Ob1 ky32_0_4 B5_2
 have nbo_x32_0_4_b8 := Ob1 ky32_0_4 B8_2
 have X32_0_4_4 := ky32_0_4.sl.wide (Nat.zero_le _) (.inl rfl)
 have O32_0_4_4 := OwnT.base ky32_0_4 E2.size'
 clear E2 N2 D2 s1_2 s2_2 s4_2 s5_2 s8_2 s29_2 B5_2 B8_2 X1_2
 refine tail_put rfl rfl N4 D4 (by decide) (does_box (V := Value.agg #[x32_0_4, Value.bool (true)]) s32_4 (fun b33 wd5 he lo_b33 B33_5 => fun a5 N5 D5 hv hO => ?_))
 have s33_5 := hv
 have E5 := E4.trans he
 have B5_5 := B5_4.ext' he
 have B8_5 := B8_4.ext' he
 have X1_5 := X1_4.ext' he
 have X32_0_4_5 := X32_0_4_4.ext' he
 have O32_0_4_5 := O32_0_4_4.ext' he
 have fr_b33 : w0.heap.size ≤ b33 := Nat.le_trans E4.size' lo_b33
 have ne_b5_b33 := Hl B5_4 lo_b33
 have ne_b8_b33 := Hl B8_4 lo_b33
 have nb_x1_b33 := SlT.old X1_4 lo_b33
 have nb_x32_0_4_b33 := SlT.old X32_0_4_4 lo_b33
 have nbo_x32_0_4_b33 := Ol O32_0_4_4 lo_b33
 have s1_5 := oT hO s1_4 rfl
 have s2_5 := oT hO s2_4 rfl
 have s5_5 := oT hO s5_4 rfl
 have s8_5 := oT hO s8_4 rfl
 clear hO hv N4 D4 E4 B5_4 B8_4 X1_4 X32_0_4_4 O32_0_4_4 s1_4 s2_4 s5_4 s8_4 s32_4
 refine tail_put rfl rfl N5 D5 (by decide) (does_assign (V := Value.pointer (some ⟨b33, 0, none⟩)) s33_5 (fun a6 N6 D6 hv hO => ?_))
 have s11_6 := hv
 have s1_6 := oT hO s1_5 rfl
 have s2_6 := oT hO s2_5 rfl
 have s5_6 := oT hO s5_5 rfl
 have s8_6 := oT hO s8_5 rfl
 clear hO hv N5 D5 s1_5 s2_5 s5_5 s8_5 s33_5
 refine tail_nil ?_
 refine wp_seq ?_
 refine Rl [] [(34, Pr.ex (Value.pointer (some ⟨b33, 0, none⟩))), (35, Pr.ex (i64 (n))), (36, Pr.ex (i64 (i))), (37, Pr.ex (Dg.val (leaf)))] 4 N6 D6 ?_ ?_
 refine Ac ?_ (Ac ?_ (Ac ?_ (Ac ?_ (Az _))))
 exact Am s11_6 rfl fun _ => rfl
 exact Am s1_6 rfl fun _ => rfl
 exact Am s2_6 rfl fun _ => rfl
 exact Ap fun aq wq _ hO hR hT => does_loadD (o := 0) (n := 4) (mid := [w32 (leaf).a, w32 (leaf).b, w32 (leaf).c, w32 (leaf).d]) (oT hO s8_6 rfl) (B8_5.ext' hR) rfl rfl (nB rfl) row_24 rfl eR
 intro a7 wd7 N7 D7 hO hR hA hU
 obtain ⟨t34, t35, t36, t37, _⟩ := hA
 have E7 := E5.trans hR
 have s5_7 := oT hO s5_6 rfl
 have s11_7 := oT hO s11_6 rfl
 have B5_7 := B5_5.ext' hR
 have B8_7 := B8_5.ext' hR
 have B33_7 := B33_5.ext' hR
 have X1_7 := X1_5.ext' hR
 have X32_0_4_7 := X32_0_4_5.ext' hR
 have O32_0_4_7 := O32_0_4_5.ext' hR
 have s34_7 : get a7 34 = Value.pointer (some ⟨b33, 0, none⟩) := t34
 have s35_7 : get a7 35 = i64 (n) := t35
 have s36_7 : get a7 36 = i64 (i) := t36
 have s37_7 : get a7 37 = Dg.val (leaf) := t37
 clear E5 N6 D6 s1_6 s2_6 s5_6 s8_6 s11_6 B5_5 B8_5 B33_5 X1_5 X32_0_4_5 O32_0_4_5
 obtain ⟨pp8, hpbpp8, hplpp8, hpinpp8⟩ := SlT.pin (b := b33) X32_0_4_7 nb_x32_0_4_b33 (fun e => Nat.ne_of_lt (Nat.lt_of_le_of_lt (Nat.zero_le _) (Nat.lt_of_lt_of_le hw0 fr_b33)) e) (Laid.pos (hL.ext E7))
 refine tail_put rfl rfl N7 D7 (by decide) (does_ret (vs := #[Value.pointer (some ⟨b33, 0, none⟩), i64 (n), i64 (i), Dg.val (leaf)]) call_67 (args4 s34_7 s35_7 s36_7 s37_7) rfl ((up_I (n) (i) leaf l true b33 pp8 wd7 (hL.ext E7) (fun e => Nat.ne_of_lt (Nat.lt_of_le_of_lt (Nat.zero_le _) (Nat.lt_of_lt_of_le hw0 fr_b33)) e) ⟨_, B33_7, hpinpp8⟩ hpbpp8 hplpp8 (by omega) (by omega) (by omega) hn).mono fun v wd9 h => fun a9 N9 D9 hv hO => ?_))
 obtain ⟨hp, hX, hS⟩ := h
 have E9 := E7.since hX (fun k e => e ▸ fr_b33)
 have B5_9 := B5_7.ext hX ne_b5_b33
 have B8_9 := B8_7.ext hX ne_b8_b33
 have X1_9 := SlT.over X1_7 hX nb_x1_b33
 have X32_0_4_9 := SlT.over X32_0_4_7 hX nb_x32_0_4_b33
 have O32_0_4_9 := OwnT.ext O32_0_4_7 hX (fun k hk e => nbo_x32_0_4_b33 (e ▸ hk))
 obtain ⟨xs9, B33_9, hsxs9_9⟩ := hS
 have s38_9 := hv.trans hp
 have s5_9 := oT hO s5_7 rfl
 have s11_9 := oT hO s11_7 rfl
 clear hO hv hp hX N7 D7 E7 B5_7 B8_7 B33_7 X1_7 X32_0_4_7 O32_0_4_7 s5_7 s11_7 s34_7 s35_7 s36_7 s37_7
 refine tail_put rfl rfl N9 D9 (by decide) (does_alloc zero_24 (fun b12 wd10 he lo_b12 B12_10 => fun a10 N10 D10 hv hO => ?_))
 have s12_10 := hv
 have E10 := E9.trans he
 have B5_10 := B5_9.ext' he
 have B8_10 := B8_9.ext' he
 have B33_10 := B33_9.ext' he
 have X1_10 := X1_9.ext' he
 have X32_0_4_10 := X32_0_4_9.ext' he
 have hsxs9_10 := hsxs9_9.ext' he
 have O32_0_4_10 := O32_0_4_9.ext' he
 have fr_b12 : w0.heap.size ≤ b12 := Nat.le_trans E9.size' lo_b12
 have ne_b5_b12 := Hl B5_9 lo_b12
 have ne_b8_b12 := Hl B8_9 lo_b12
 have ne_b33_b12 := Hl B33_9 lo_b12
 have nb_x1_b12 := SlT.old X1_9 lo_b12
 have nb_x32_0_4_b12 := SlT.old X32_0_4_9 lo_b12
 have nb_xs9_b12 := SlT.old hsxs9_9 lo_b12
 have nbo_x32_0_4_b12 := Ol O32_0_4_9 lo_b12
 have s5_10 := oT hO s5_9 rfl
 have s11_10 := oT hO s11_9 rfl
 have s38_10 := oT hO s38_9 rfl
 clear hO hv N9 D9 E9 B5_9 B8_9 B33_9 X1_9 X32_0_4_9 hsxs9_9 O32_0_4_9 s5_9 s11_9 s38_9
 refine tail_none rfl rfl (does_storeD (o := 0) (n := 4) (cs' := [w32 ((upS (n).toNat (i).toNat leaf l true).1).a, w32 ((upS (n).toNat (i).toNat leaf l true).1).b, w32 ((upS (n).toNat (i).toNat leaf l true).1).c, w32 ((upS (n).toNat (i).toNat leaf l true).1).d]) (V := Dg.val ((upS (n).toNat (i).toNat leaf l true).1)) s12_10 s38_10 B12_10 (nB rfl) rfl siz_24 rfl rfl (fun wd11 hX hz B12_11 => ?_))
 have E11 := E10.since hX (fun k e => e ▸ fr_b12)
 have B5_11 := B5_10.ext hX ne_b5_b12
 have B8_11 := B8_10.ext hX ne_b8_b12
 have B33_11 := B33_10.ext hX ne_b33_b12
 have X1_11 := SlT.over X1_10 hX nb_x1_b12
 have X32_0_4_11 := SlT.over X32_0_4_10 hX nb_x32_0_4_b12
 have hsxs9_11 := SlT.over hsxs9_10 hX nb_xs9_b12
 have O32_0_4_11 := OwnT.ext O32_0_4_10 hX (fun k hk e => nbo_x32_0_4_b12 (e ▸ hk))
 clear hX hz E10 B5_10 B8_10 B33_10 B12_10 X1_10 X32_0_4_10 hsxs9_10 O32_0_4_10
 refine tail_nil ?_
 refine wp_seq ?_
 refine Rl [] [(39, Pr.ex (Value.pointer (some ⟨b33, 0, none⟩))), (40, Pr.ex (Value.bool (((upS (n).toNat (i).toNat leaf l true).2.2) && decide (((upS (n).toNat (i).toNat leaf l true).2.1).length = 0)))), (41, Pr.ex (Value.bool (((upS (n).toNat (i).toNat leaf l true).2.2) && decide (((upS (n).toNat (i).toNat leaf l true).2.1).length = 0)))), (42, Pr.ifb (((upS (n).toNat (i).toNat leaf l true).2.2) && decide (((upS (n).toNat (i).toNat leaf l true).2.1).length = 0)) (Pr.ex (Dg.val ((upS (n).toNat (i).toNat leaf l true).1)))), (43, Pr.ifb (((upS (n).toNat (i).toNat leaf l true).2.2) && decide (((upS (n).toNat (i).toNat leaf l true).2.1).length = 0)) (Pr.ex (Dg.val (r)))), (44, Pr.ifb (((upS (n).toNat (i).toNat leaf l true).2.2) && decide (((upS (n).toNat (i).toNat leaf l true).2.1).length = 0)) (Pr.ex (Value.bool (decide ((upS (n).toNat (i).toNat leaf l true).1 = r))))), (45, Pr.ex (Value.bool ((((upS (n).toNat (i).toNat leaf l true).2.2) && decide (((upS (n).toNat (i).toNat leaf l true).2.1).length = 0)) && (decide ((upS (n).toNat (i).toNat leaf l true).1 = r))))), (10, Pr.ex (Value.bool ((((upS (n).toNat (i).toNat leaf l true).2.2) && decide (((upS (n).toNat (i).toNat leaf l true).2.1).length = 0)) && (decide ((upS (n).toNat (i).toNat leaf l true).1 = r)))))] 8 N10 D10 ?_ ?_
 refine Ac ?_ (Ac ?_ (Ac ?_ (Ac ?_ (Ac ?_ (Ac ?_ (Ac ?_ (Ac ?_ (Az _))))))))
 exact Am s11_10 rfl fun _ => rfl
 exact Ap fun aq wq _ hO hR hT => does_ret (vs := #[Value.pointer (some ⟨b33, 0, none⟩)]) call_68 (args1 (hT 39 rfl rfl)) rfl ((done_ ((upS (n).toNat (i).toNat leaf l true).2.1) ((upS (n).toNat (i).toNat leaf l true).2.2) b33 pp8 wq ⟨_, (B33_11.ext' hR), (hsxs9_11.ext' hR)⟩).mono fun v w2 h => ⟨h.2, h.1⟩)
 exact Ap fun aq wq _ hO hR hT => does_move (V := Value.bool (((upS (n).toNat (i).toNat leaf l true).2.2) && decide (((upS (n).toNat (i).toNat leaf l true).2.1).length = 0))) (hT 40 rfl rfl) eR
 refine Ask.guarded (B := ((upS (n).toNat (i).toNat leaf l true).2.2) && decide (((upS (n).toNat (i).toNat leaf l true).2.1).length = 0)) (want := true) (t := 41) rfl rfl rfl rfl (by decide) (fun aq wq hO hR hT => hT 41 rfl rfl) (fun hG aq wq hNq hO hR hT => ?_) (fun hno _ => fun hc => absurd hc hno)
 exact does_loadD (o := 0) (n := 4) (mid := [w32 ((upS (n).toNat (i).toNat leaf l true).1).a, w32 ((upS (n).toNat (i).toNat leaf l true).1).b, w32 ((upS (n).toNat (i).toNat leaf l true).1).c, w32 ((upS (n).toNat (i).toNat leaf l true).1).d]) (oT hO s12_10 rfl) (B12_11.ext' hR) rfl rfl (nB rfl) row_24 rfl ⟨Ext.refl _, fun _ => rfl⟩
 refine Ask.guarded (B := ((upS (n).toNat (i).toNat leaf l true).2.2) && decide (((upS (n).toNat (i).toNat leaf l true).2.1).length = 0)) (want := true) (t := 41) rfl rfl rfl rfl (by decide) (fun aq wq hO hR hT => hT 41 rfl rfl) (fun hG aq wq hNq hO hR hT => ?_) (fun hno _ => fun hc => absurd hc hno)
 exact does_loadD (o := 0) (n := 4) (mid := [w32 (r).a, w32 (r).b, w32 (r).c, w32 (r).d]) (oT hO s5_10 rfl) (B5_11.ext' hR) rfl rfl (nB rfl) row_24 rfl ⟨Ext.refl _, fun _ => rfl⟩
 refine Ask.guarded (B := ((upS (n).toNat (i).toNat leaf l true).2.2) && decide (((upS (n).toNat (i).toNat leaf l true).2.1).length = 0)) (want := true) (t := 41) rfl rfl rfl rfl (by decide) (fun aq wq hO hR hT => hT 41 rfl rfl) (fun hG aq wq hNq hO hR hT => ?_) (fun hno _ => fun hc => absurd hc hno)
 exact does_eqT (a := (upS (n).toNat (i).toNat leaf l true).1) (b := r) eq_24 (hT 42 rfl rfl hG) (hT 43 rfl rfl hG) ⟨Ext.refl _, fun _ => rfl⟩
 exact Ap fun aq wq _ hO hR hT => does_and (B := ((upS (n).toNat (i).toNat leaf l true).2.2) && decide (((upS (n).toNat (i).toNat leaf l true).2.1).length = 0)) (X := decide ((upS (n).toNat (i).toNat leaf l true).1 = r)) (hT 41 rfl rfl) (fun hB => (hT 44 rfl rfl hB)) rfl eR
 exact Ap fun aq wq _ hO hR hT => does_assign (V := Value.bool ((((upS (n).toNat (i).toNat leaf l true).2.2) && decide (((upS (n).toNat (i).toNat leaf l true).2.1).length = 0)) && (decide ((upS (n).toNat (i).toNat leaf l true).1 = r)))) (hT 45 rfl rfl) eR
 intro a12 wd12 N12 D12 hO hR hA hU
 obtain ⟨_, _, _, _, _, _, _, t10, _⟩ := hA
 have E12 := E11.trans hR
 have B5_12 := B5_11.ext' hR
 have B8_12 := B8_11.ext' hR
 have B33_12 := B33_11.ext' hR
 have B12_12 := B12_11.ext' hR
 have X1_12 := X1_11.ext' hR
 have X32_0_4_12 := X32_0_4_11.ext' hR
 have hsxs9_12 := hsxs9_11.ext' hR
 have O32_0_4_12 := O32_0_4_11.ext' hR
 have s10_12 : get a12 10 = Value.bool ((((upS (n).toNat (i).toNat leaf l true).2.2) && decide (((upS (n).toNat (i).toNat leaf l true).2.1).length = 0)) && (decide ((upS (n).toNat (i).toNat leaf l true).1 = r))) := t10
 clear E11 N10 D10 s5_10 s11_10 s12_10 s38_10 B5_11 B8_11 B33_11 B12_11 X1_11 X32_0_4_11 hsxs9_11 O32_0_4_11
 refine tail_nil ?_
 refine wp_ret ?_
 refine res_one (V := Value.bool ((((upS (n).toNat (i).toNat leaf l true).2.2) && decide (((upS (n).toNat (i).toNat leaf l true).2.1).length = 0)) && (decide ((upS (n).toNat (i).toNat leaf l true).1 = r)))) rfl D12 s10_12 ?_
 exact ⟨by show Value.bool _ = Value.bool _; rw [check_yesS hb], E12⟩

end Go.Proofs.YtmmghpbncejfiaaDoor
