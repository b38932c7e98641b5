/- The walks of functions of the program: printed. -/
import Derived.Test.YtaeohnkfmachfabDoorK
import Derived.Test.YtaeohnkfmachfabDoorG20
import Derived.Test.YtaeohnkfmachfabDoorG21
import Derived.Test.YtaeohnkfmachfabDoorG22
import Derived.Test.YtaeohnkfmachfabDoorF0
set_option maxRecDepth 100000
namespace Go.Proofs.YtaeohnkfmachfabDoor
open Go Go.RowKit Sk Sd
theorem check_ (r : Dg) (n i : Int) (leaf : Dg) (l : List Dg) (x1 : Value) (w0 : World) (hL : Laid w0) (hx1 : SlT DG 0 0 l x1 w0) (hn : l.length ≤ 100000) :
    Gives Tryd.prog 30 #[Dg.val (r), i64 (n), i64 (i), Dg.val (leaf), x1] w0 (Pr.ex (Value.bool (checks r n i leaf l))) := by
 refine enter (N := 46) Tryd.func30 rfl rfl ?_
 intro a0 hN_0 hD_0 hA
 have s0_0 : get a0 0 = Dg.val (r) := hA 0 _ rfl
 have s1_0 : get a0 1 = i64 (n) := hA 1 _ rfl
 have s2_0 : get a0 2 = i64 (i) := hA 2 _ rfl
 have s3_0 : get a0 3 = Dg.val (leaf) := hA 3 _ rfl
 have s4_0 : get a0 4 = x1 := hA 4 _ rfl
 clear hA
 have hE_0 : Ext w0 w0 := Ext.refl w0
 have hw0 := Laid.pos hL
 have hsx1_0 := hx1.close
 refine wp_seq ?_
 refine region_lex [5, 8] [(5, Pr.box' w0.heap.size 24 [w32 (r).a, w32 (r).b, w32 (r).c, w32 (r).d]), (8, Pr.box' w0.heap.size 24 [w32 (leaf).a, w32 (leaf).b, w32 (leaf).c, w32 (leaf).d]), (10, Pr.ex (Value.bool (false)))] 3 hN_0 hD_0 (by kernel_rfl) (by kernel_rfl) ?_ ?_
 refine Asks.cons ?_ (Asks.cons ?_ (Asks.cons ?_ (Asks.zero _)))
 refine Ask.fresh rfl rfl ?_
 intro aq wq hNq hO hR hT
 exact does_box (V := Dg.val (r)) ((hO 0 rfl).trans s0_0) (fun b w2 he hlo hb => ⟨he, ⟨b, rfl, Nat.le_trans hR.size' hlo, hb⟩, ⟨b, rfl, hlo, hb.lt⟩⟩)
 refine Ask.fresh rfl rfl ?_
 intro aq wq hNq hO hR hT
 exact does_box (V := Dg.val (leaf)) ((hO 3 rfl).trans s3_0) (fun b w2 he hlo hb => ⟨he, ⟨b, rfl, Nat.le_trans hR.size' hlo, hb⟩, ⟨b, rfl, hlo, hb.lt⟩⟩)
 exact Ask.plain rfl rfl fun aq wq hNq hO hR hT => does_assign (V := Value.bool (false)) rfl ⟨Ext.refl _, rfl⟩
 intro a1 wd1 hN_1 hD_1 hO hR hA hU
 obtain ⟨t5, t8, _, _⟩ := hA
 have hE_1 := hE_0.trans hR
 have s1_1 := (hO 1 rfl).trans s1_0
 have s2_1 := (hO 2 rfl).trans s2_0
 have s4_1 := (hO 4 rfl).trans s4_0
 have hsx1_1 := hsx1_0.ext' hR
 obtain ⟨b5, s5_1, lo_b5, hbb5_1⟩ := t5
 have nb_x1_b5 := SlT.old hsx1_0 lo_b5
 have fr_b5 : w0.heap.size ≤ b5 := Nat.le_trans hE_0.size' lo_b5
 obtain ⟨b8, s8_1, lo_b8, hbb8_1⟩ := t8
 have nb_x1_b8 := SlT.old hsx1_0 lo_b8
 have fr_b8 : w0.heap.size ≤ b8 := Nat.le_trans hE_0.size' lo_b8
 obtain ⟨u0, ⟨u1, _⟩⟩ := hU
 have ne_b5_b8 : b5 ≠ b8 := fun e => u0 8 (by decide) (by rw [s5_1, s8_1, e])
 clear hE_0 hN_0 hD_0 s0_0 s1_0 s2_0 s3_0 s4_0 hsx1_0
 refine tail_nil ?_
 refine wp_seq ?_
 refine wp_seq ?_
 refine region_lex [] [(13, Pr.ex (i64 (n))), (14, Pr.ex (Value.bool (decide (((1000 : Nat) : Int) < n)))), (15, Pr.ex (Value.bool (decide (((1000 : Nat) : Int) < n)))), (16, Pr.ifb (!(decide (((1000 : Nat) : Int) < n))) (Pr.ex (i64 (i)))), (17, Pr.ifb (!(decide (((1000 : Nat) : Int) < n))) (Pr.ex (Value.bool (decide (i < ((0 : Nat) : Int)))))), (18, Pr.ex (Value.bool ((decide (((1000 : Nat) : Int) < n)) || (decide (i < ((0 : Nat) : Int)))))), (19, Pr.ex (Value.bool ((decide (((1000 : Nat) : Int) < n)) || (decide (i < ((0 : Nat) : Int)))))), (20, Pr.ifb (!((decide (((1000 : Nat) : Int) < n)) || (decide (i < ((0 : Nat) : Int))))) (Pr.ex (i64 (i)))), (21, Pr.ifb (!((decide (((1000 : Nat) : Int) < n)) || (decide (i < ((0 : Nat) : Int))))) (Pr.ex (i64 (n)))), (22, Pr.ifb (!((decide (((1000 : Nat) : Int) < n)) || (decide (i < ((0 : Nat) : Int))))) (Pr.ex (Value.bool (decide (n ≤ i))))), (23, Pr.ex (Value.bool (((decide (((1000 : Nat) : Int) < n)) || (decide (i < ((0 : Nat) : Int)))) || (decide (n ≤ i))))), (24, Pr.ex (Value.bool (((decide (((1000 : Nat) : Int) < n)) || (decide (i < ((0 : Nat) : Int)))) || (decide (n ≤ i))))), (25, Pr.ifb (!(((decide (((1000 : Nat) : Int) < n)) || (decide (i < ((0 : Nat) : Int)))) || (decide (n ≤ i)))) (Pr.ex (x1))), (26, Pr.ifb (!(((decide (((1000 : Nat) : Int) < n)) || (decide (i < ((0 : Nat) : Int)))) || (decide (n ≤ i)))) (Pr.ex (i64 ((l.length : Nat) : Int)))), (27, Pr.ifb (!(((decide (((1000 : Nat) : Int) < n)) || (decide (i < ((0 : Nat) : Int)))) || (decide (n ≤ i)))) (Pr.ex (i64 (n)))), (28, Pr.ifb (!(((decide (((1000 : Nat) : Int) < n)) || (decide (i < ((0 : Nat) : Int)))) || (decide (n ≤ i)))) (Pr.ex (Value.bool (decide (n < ((l.length : Nat) : Int)))))), (29, Pr.ex (Value.bool ((((decide (((1000 : Nat) : Int) < n)) || (decide (i < ((0 : Nat) : Int)))) || (decide (n ≤ i))) || (decide (n < ((l.length : Nat) : Int))))))] 17 hN_1 hD_1 (by kernel_rfl) (by kernel_rfl) ?_ ?_
 refine Asks.cons ?_ (Asks.cons ?_ (Asks.cons ?_ (Asks.cons ?_ (Asks.cons ?_ (Asks.cons ?_ (Asks.cons ?_ (Asks.cons ?_ (Asks.cons ?_ (Asks.cons ?_ (Asks.cons ?_ (Asks.cons ?_ (Asks.cons ?_ (Asks.cons ?_ (Asks.cons ?_ (Asks.cons ?_ (Asks.cons ?_ (Asks.zero _)))))))))))))))))
 exact Ask.plain rfl rfl fun aq wq hNq hO hR hT => does_move (V := i64 (n)) ((hO 1 rfl).trans s1_1) ⟨Ext.refl _, rfl⟩
 exact Ask.plain rfl rfl fun aq wq hNq hO hR hT => does_gtr (a := n) (b := ((1000 : Nat) : Int)) (hT 13 rfl rfl) rfl ⟨Ext.refl _, rfl⟩
 exact Ask.plain rfl rfl fun aq wq hNq hO hR hT => does_move (V := Value.bool (decide (((1000 : Nat) : Int) < n))) (hT 14 rfl rfl) ⟨Ext.refl _, rfl⟩
 refine Ask.guarded (B := decide (((1000 : Nat) : Int) < n)) (want := false) (t := 15) rfl rfl rfl rfl (by decide) (fun aq wq hO hR hT => hT 15 rfl rfl) (fun hG aq wq hNq hO hR hT => ?_) (fun hno _ => fun hc => absurd (bn hc) hno)
 replace hG := nb hG
 exact does_move (V := i64 (i)) ((hO 2 rfl).trans s2_1) ⟨Ext.refl _, fun _ => rfl⟩
 refine Ask.guarded (B := decide (((1000 : Nat) : Int) < n)) (want := false) (t := 15) rfl rfl rfl rfl (by decide) (fun aq wq hO hR hT => hT 15 rfl rfl) (fun hG aq wq hNq hO hR hT => ?_) (fun hno _ => fun hc => absurd (bn hc) hno)
 replace hG := nb hG
 exact does_lss (a := i) (b := ((0 : Nat) : Int)) (hT 16 rfl rfl hG) rfl ⟨Ext.refl _, fun _ => rfl⟩
 exact Ask.plain rfl rfl fun aq wq hNq hO hR hT => does_or (B := decide (((1000 : Nat) : Int) < n)) (X := decide (i < ((0 : Nat) : Int))) (hT 15 rfl rfl) rfl (fun hB => (hT 17 rfl rfl (nb hB))) ⟨Ext.refl _, rfl⟩
 exact Ask.plain rfl rfl fun aq wq hNq hO hR hT => does_move (V := Value.bool ((decide (((1000 : Nat) : Int) < n)) || (decide (i < ((0 : Nat) : Int))))) (hT 18 rfl rfl) ⟨Ext.refl _, rfl⟩
 refine Ask.guarded (B := (decide (((1000 : Nat) : Int) < n)) || (decide (i < ((0 : Nat) : Int)))) (want := false) (t := 19) rfl rfl rfl rfl (by decide) (fun aq wq hO hR hT => hT 19 rfl rfl) (fun hG aq wq hNq hO hR hT => ?_) (fun hno _ => fun hc => absurd (bn hc) hno)
 replace hG := nb hG
 exact does_move (V := i64 (i)) ((hO 2 rfl).trans s2_1) ⟨Ext.refl _, fun _ => rfl⟩
 refine Ask.guarded (B := (decide (((1000 : Nat) : Int) < n)) || (decide (i < ((0 : Nat) : Int)))) (want := false) (t := 19) rfl rfl rfl rfl (by decide) (fun aq wq hO hR hT => hT 19 rfl rfl) (fun hG aq wq hNq hO hR hT => ?_) (fun hno _ => fun hc => absurd (bn hc) hno)
 replace hG := nb hG
 exact does_move (V := i64 (n)) ((hO 1 rfl).trans s1_1) ⟨Ext.refl _, fun _ => rfl⟩
 refine Ask.guarded (B := (decide (((1000 : Nat) : Int) < n)) || (decide (i < ((0 : Nat) : Int)))) (want := false) (t := 19) rfl rfl rfl rfl (by decide) (fun aq wq hO hR hT => hT 19 rfl rfl) (fun hG aq wq hNq hO hR hT => ?_) (fun hno _ => fun hc => absurd (bn hc) hno)
 replace hG := nb hG
 exact does_geq (a := i) (b := n) (hT 20 rfl rfl hG) (hT 21 rfl rfl hG) ⟨Ext.refl _, fun _ => rfl⟩
 exact Ask.plain rfl rfl fun aq wq hNq hO hR hT => does_or (B := (decide (((1000 : Nat) : Int) < n)) || (decide (i < ((0 : Nat) : Int)))) (X := decide (n ≤ i)) (hT 19 rfl rfl) rfl (fun hB => (hT 22 rfl rfl (nb hB))) ⟨Ext.refl _, rfl⟩
 exact Ask.plain rfl rfl fun aq wq hNq hO hR hT => does_move (V := Value.bool (((decide (((1000 : Nat) : Int) < n)) || (decide (i < ((0 : Nat) : Int)))) || (decide (n ≤ i)))) (hT 23 rfl rfl) ⟨Ext.refl _, rfl⟩
 refine Ask.guarded (B := ((decide (((1000 : Nat) : Int) < n)) || (decide (i < ((0 : Nat) : Int)))) || (decide (n ≤ i))) (want := false) (t := 24) rfl rfl rfl rfl (by decide) (fun aq wq hO hR hT => hT 24 rfl rfl) (fun hG aq wq hNq hO hR hT => ?_) (fun hno _ => fun hc => absurd (bn hc) hno)
 replace hG := nb hG
 exact does_move (V := x1) ((hO 4 rfl).trans s4_1) ⟨Ext.refl _, fun _ => rfl⟩
 refine Ask.guarded (B := ((decide (((1000 : Nat) : Int) < n)) || (decide (i < ((0 : Nat) : Int)))) || (decide (n ≤ i))) (want := false) (t := 24) rfl rfl rfl rfl (by decide) (fun aq wq hO hR hT => hT 24 rfl rfl) (fun hG aq wq hNq hO hR hT => ?_) (fun hno _ => fun hc => absurd (bn hc) hno)
 replace hG := nb hG
 exact does_len (T := DG) (xs := l) sli_34 (SlT.at (hT 25 rfl rfl hG) (hsx1_1.ext' hR)) ⟨Ext.refl _, fun _ => rfl⟩
 refine Ask.guarded (B := ((decide (((1000 : Nat) : Int) < n)) || (decide (i < ((0 : Nat) : Int)))) || (decide (n ≤ i))) (want := false) (t := 24) rfl rfl rfl rfl (by decide) (fun aq wq hO hR hT => hT 24 rfl rfl) (fun hG aq wq hNq hO hR hT => ?_) (fun hno _ => fun hc => absurd (bn hc) hno)
 replace hG := nb hG
 exact does_move (V := i64 (n)) ((hO 1 rfl).trans s1_1) ⟨Ext.refl _, fun _ => rfl⟩
 refine Ask.guarded (B := ((decide (((1000 : Nat) : Int) < n)) || (decide (i < ((0 : Nat) : Int)))) || (decide (n ≤ i))) (want := false) (t := 24) rfl rfl rfl rfl (by decide) (fun aq wq hO hR hT => hT 24 rfl rfl) (fun hG aq wq hNq hO hR hT => ?_) (fun hno _ => fun hc => absurd (bn hc) hno)
 replace hG := nb hG
 exact does_gtr (a := ((l.length : Nat) : Int)) (b := n) (hT 26 rfl rfl hG) (hT 27 rfl rfl hG) ⟨Ext.refl _, fun _ => rfl⟩
 exact Ask.plain rfl rfl fun aq wq hNq hO hR hT => does_or (B := ((decide (((1000 : Nat) : Int) < n)) || (decide (i < ((0 : Nat) : Int)))) || (decide (n ≤ i))) (X := decide (n < ((l.length : Nat) : Int))) (hT 24 rfl rfl) rfl (fun hB => (hT 28 rfl rfl (nb hB))) ⟨Ext.refl _, rfl⟩
 intro a2 wd2 hN_2 hD_2 hO hR hA hU
 obtain ⟨_, _, _, _, _, _, _, _, _, _, _, _, _, _, _, _, t29, _⟩ := hA
 have hE_2 := hE_1.trans hR
 have s1_2 := (hO 1 rfl).trans s1_1
 have s2_2 := (hO 2 rfl).trans s2_1
 have s4_2 := (hO 4 rfl).trans s4_1
 have s5_2 := (hO 5 rfl).trans s5_1
 have s8_2 := (hO 8 rfl).trans s8_1
 have hbb5_2 := hbb5_1.ext' hR
 have hbb8_2 := hbb8_1.ext' hR
 have hsx1_2 := hsx1_1.ext' hR
 have s29_2 : get a2 29 = Value.bool ((((decide (((1000 : Nat) : Int) < n)) || (decide (i < ((0 : Nat) : Int)))) || (decide (n ≤ i))) || (decide (n < ((l.length : Nat) : Int)))) := t29
 clear hE_1 hN_1 hD_1 s1_1 s2_1 s4_1 s5_1 s8_1 hbb5_1 hbb8_1 hsx1_1
 refine tail_nil ?_
 refine wp_if (B := (((decide (((1000 : Nat) : Int) < n)) || (decide (i < ((0 : Nat) : Int)))) || (decide (n ≤ i))) || (decide (n < ((l.length : Nat) : Int)))) s29_2 (fun hc0 => ?_) (fun hc0 => ?_)
 have hb := or4 hc0
 refine wp_seq ?_
 refine region_lex [] [(10, Pr.ex (Value.bool (false)))] 1 hN_2 hD_2 (by kernel_rfl) (by kernel_rfl) ?_ ?_
 refine Asks.cons ?_ (Asks.zero _)
 exact Ask.plain rfl rfl fun aq wq hNq hO hR hT => does_assign (V := Value.bool (false)) rfl ⟨Ext.refl _, rfl⟩
 intro a3 wd3 hN_3 hD_3 hO hR hA hU
 obtain ⟨t10, _⟩ := hA
 have hE_3 := hE_2.trans hR
 have hbb5_3 := hbb5_2.ext' hR
 have hbb8_3 := hbb8_2.ext' hR
 have hsx1_3 := hsx1_2.ext' hR
 have s10_3 : get a3 10 = Value.bool (false) := t10
 clear hE_2 hN_2 hD_2 s1_2 s2_2 s4_2 s5_2 s8_2 s29_2 hbb5_2 hbb8_2 hsx1_2
 refine tail_nil ?_
 refine wp_ret ?_
 refine res_one (V := Value.bool (false)) rfl hD_3 s10_3 ?_
 exact ⟨by show Value.bool _ = Value.bool _; rw [check_wrong (fun h => by omega)], hE_3⟩
 obtain ⟨hb1, hb2, hb3, hb4⟩ := nor4 hc0
 have hb : n ≤ 1000 ∧ 0 ≤ i ∧ i < n := ⟨by omega, by omega, by omega⟩
 refine wp_skip ?_
 refine wp_seq ?_
 refine region_lex [] [(30, Pr.ex (x1)), (31, Pr.own' DG wd2.heap.size 24 (l)), (32, Pr.ag (fun x => Value.agg #[x, Value.bool (true)]) (Pr.own' DG wd2.heap.size 24 (l)))] 3 hN_2 hD_2 (by kernel_rfl) (by kernel_rfl) ?_ ?_
 refine Asks.cons ?_ (Asks.cons ?_ (Asks.cons ?_ (Asks.zero _)))
 exact Ask.plain rfl rfl fun aq wq hNq hO hR hT => does_move (V := x1) ((hO 4 rfl).trans s4_2) ⟨Ext.refl _, rfl⟩
 exact Ask.plain rfl rfl fun aq wq hNq hO hR hT => does_ret (vs := #[x1]) call_31 (args1 (hT 30 rfl rfl)) rfl ((clone_ (l) (x1) wq ((hsx1_2.ext' hR).wide (Nat.zero_le _) (.inl rfl)) (by omega)).mono fun v w2 h => ⟨h.2, OwnT.base h.1 hR.size'⟩)
 exact Ask.plain rfl rfl fun aq wq hNq hO hR hT => does_build (vs := #[(0, get aq 31), (1, Value.bool (true))]) (V := Value.agg #[get aq 31, Value.bool (true)]) (parts2 rfl rfl) (by obtain ⟨sa0, sc0, hv0, _⟩ := (OwnT.sl (hT 31 rfl rfl)); rw [hv0]; kernel_rfl) ⟨Ext.refl _, ⟨get aq 31, rfl, (hT 31 rfl rfl)⟩⟩
 intro a4 wd4 hN_4 hD_4 hO hR hA hU
 obtain ⟨_, _, t32, _⟩ := hA
 have hE_4 := hE_2.trans hR
 have s1_4 := (hO 1 rfl).trans s1_2
 have s2_4 := (hO 2 rfl).trans s2_2
 have s5_4 := (hO 5 rfl).trans s5_2
 have s8_4 := (hO 8 rfl).trans s8_2
 have hbb5_4 := hbb5_2.ext' hR
 have hbb8_4 := hbb8_2.ext' hR
 have hsx1_4 := hsx1_2.ext' hR
 obtain ⟨x32_0_4, s32_4, ky32_0_4⟩ := t32
 replace ky32_0_4 : OwnT DG wd2.heap.size 24 (l) x32_0_4 wd4 := ky32_0_4
 have nbo_x32_0_4_b5 : x32_0_4.ownBlock ≠ some b5 := fun e => Nat.lt_irrefl _ (Nat.lt_of_lt_of_le hbb5_2.lt (OwnT.block_lt ky32_0_4 e).1)
 have nbo_x32_0_4_b8 : x32_0_4.ownBlock ≠ some b8 := fun e => Nat.lt_irrefl _ (Nat.lt_of_lt_of_le hbb8_2.lt (OwnT.block_lt ky32_0_4 e).1)
 have hsx32_0_4_4 := ky32_0_4.sl.wide (Nat.zero_le _) (.inl rfl)
 have hox32_0_4_4 := OwnT.base ky32_0_4 hE_2.size'
 clear hE_2 hN_2 hD_2 s1_2 s2_2 s4_2 s5_2 s8_2 s29_2 hbb5_2 hbb8_2 hsx1_2
 refine tail_put rfl rfl hN_4 hD_4 (by decide) (does_box (V := Value.agg #[x32_0_4, Value.bool (true)]) s32_4 (fun b33 wd5 he lo_b33 hbb33_5 => fun a5 hN_5 hD_5 hv hO => ?_))
 have s33_5 := hv
 have hE_5 := hE_4.trans he
 have hbb5_5 := hbb5_4.ext' he
 have hbb8_5 := hbb8_4.ext' he
 have hsx1_5 := hsx1_4.ext' he
 have hsx32_0_4_5 := hsx32_0_4_4.ext' he
 have hox32_0_4_5 := hox32_0_4_4.ext' he
 have fr_b33 : w0.heap.size ≤ b33 := Nat.le_trans hE_4.size' lo_b33
 have ne_b5_b33 : b5 ≠ b33 := fun e => Nat.lt_irrefl _ (Nat.lt_of_lt_of_le hbb5_4.lt (e ▸ lo_b33))
 have ne_b8_b33 : b8 ≠ b33 := fun e => Nat.lt_irrefl _ (Nat.lt_of_lt_of_le hbb8_4.lt (e ▸ lo_b33))
 have nb_x1_b33 := SlT.old hsx1_4 lo_b33
 have nb_x32_0_4_b33 := SlT.old hsx32_0_4_4 lo_b33
 have nbo_x32_0_4_b33 : x32_0_4.ownBlock ≠ some b33 := fun e => Nat.lt_irrefl _ (Nat.lt_of_lt_of_le (OwnT.block_lt hox32_0_4_4 e).2 lo_b33)
 have s1_5 := (hO 1 rfl).trans s1_4
 have s2_5 := (hO 2 rfl).trans s2_4
 have s5_5 := (hO 5 rfl).trans s5_4
 have s8_5 := (hO 8 rfl).trans s8_4
 clear hO hv hN_4 hD_4 hE_4 hbb5_4 hbb8_4 hsx1_4 hsx32_0_4_4 hox32_0_4_4 s1_4 s2_4 s5_4 s8_4 s32_4
 refine tail_put rfl rfl hN_5 hD_5 (by decide) (does_assign (V := Value.pointer (some ⟨b33, 0, none⟩)) s33_5 (fun a6 hN_6 hD_6 hv hO => ?_))
 have s11_6 := hv
 have s1_6 := (hO 1 rfl).trans s1_5
 have s2_6 := (hO 2 rfl).trans s2_5
 have s5_6 := (hO 5 rfl).trans s5_5
 have s8_6 := (hO 8 rfl).trans s8_5
 clear hO hv hN_5 hD_5 s1_5 s2_5 s5_5 s8_5 s33_5
 refine tail_nil ?_
 refine wp_seq ?_
 refine region_lex [] [(34, Pr.ex (Value.pointer (some ⟨b33, 0, none⟩))), (35, Pr.ex (i64 (n))), (36, Pr.ex (i64 (i))), (37, Pr.ex (Dg.val (leaf)))] 4 hN_6 hD_6 (by kernel_rfl) (by kernel_rfl) ?_ ?_
 refine Asks.cons ?_ (Asks.cons ?_ (Asks.cons ?_ (Asks.cons ?_ (Asks.zero _))))
 exact Ask.plain rfl rfl fun aq wq hNq hO hR hT => does_move (V := Value.pointer (some ⟨b33, 0, none⟩)) ((hO 11 rfl).trans s11_6) ⟨Ext.refl _, rfl⟩
 exact Ask.plain rfl rfl fun aq wq hNq hO hR hT => does_move (V := i64 (n)) ((hO 1 rfl).trans s1_6) ⟨Ext.refl _, rfl⟩
 exact Ask.plain rfl rfl fun aq wq hNq hO hR hT => does_move (V := i64 (i)) ((hO 2 rfl).trans s2_6) ⟨Ext.refl _, rfl⟩
 exact Ask.plain rfl rfl fun aq wq hNq hO hR hT => does_loadD (o := 0) (n := 4) (mid := [w32 (leaf).a, w32 (leaf).b, w32 (leaf).c, w32 (leaf).d]) ((hO 8 rfl).trans s8_6) (hbb8_5.ext' hR) rfl rfl (Nat.le_of_ble_eq_true rfl) row_24 rfl ⟨Ext.refl _, rfl⟩
 intro a7 wd7 hN_7 hD_7 hO hR hA hU
 obtain ⟨t34, t35, t36, t37, _⟩ := hA
 have hE_7 := hE_5.trans hR
 have s5_7 := (hO 5 rfl).trans s5_6
 have s11_7 := (hO 11 rfl).trans s11_6
 have hbb5_7 := hbb5_5.ext' hR
 have hbb8_7 := hbb8_5.ext' hR
 have hbb33_7 := hbb33_5.ext' hR
 have hsx1_7 := hsx1_5.ext' hR
 have hsx32_0_4_7 := hsx32_0_4_5.ext' hR
 have hox32_0_4_7 := hox32_0_4_5.ext' hR
 have s34_7 : get a7 34 = Value.pointer (some ⟨b33, 0, none⟩) := t34
 have s35_7 : get a7 35 = i64 (n) := t35
 have s36_7 : get a7 36 = i64 (i) := t36
 have s37_7 : get a7 37 = Dg.val (leaf) := t37
 clear hE_5 hN_6 hD_6 s1_6 s2_6 s5_6 s8_6 s11_6 hbb5_5 hbb8_5 hbb33_5 hsx1_5 hsx32_0_4_5 hox32_0_4_5
 obtain ⟨pp8, hpbpp8, hplpp8, hpinpp8⟩ := SlT.pin (b := b33) hsx32_0_4_7 nb_x32_0_4_b33 (fun e => Nat.ne_of_lt (Nat.lt_of_le_of_lt (Nat.zero_le _) (Nat.lt_of_lt_of_le hw0 fr_b33)) e) (Laid.pos (hL.ext hE_7))
 refine tail_put rfl rfl hN_7 hD_7 (by decide) (does_ret (vs := #[Value.pointer (some ⟨b33, 0, none⟩), i64 (n), i64 (i), Dg.val (leaf)]) call_52 (args4 s34_7 s35_7 s36_7 s37_7) rfl ((up_I (n) (i) leaf l true b33 pp8 wd7 (hL.ext hE_7) (fun e => Nat.ne_of_lt (Nat.lt_of_le_of_lt (Nat.zero_le _) (Nat.lt_of_lt_of_le hw0 fr_b33)) e) ⟨_, hbb33_7, hpinpp8⟩ hpbpp8 hplpp8 (by omega) (by omega) (by omega) hn).mono fun v wd9 h => fun a9 hN_9 hD_9 hv hO => ?_))
 obtain ⟨hp, hX, hS⟩ := h
 have hE_9 := hE_7.since hX (fun k e => e ▸ fr_b33)
 have hbb5_9 := hbb5_7.ext hX ne_b5_b33
 have hbb8_9 := hbb8_7.ext hX ne_b8_b33
 have hsx1_9 := SlT.over hsx1_7 hX nb_x1_b33
 have hsx32_0_4_9 := SlT.over hsx32_0_4_7 hX nb_x32_0_4_b33
 have hox32_0_4_9 := OwnT.ext hox32_0_4_7 hX (fun k hk e => nbo_x32_0_4_b33 (e ▸ hk))
 obtain ⟨xs9, hbb33_9, hsxs9_9⟩ := hS
 have s38_9 := hv.trans hp
 have s5_9 := (hO 5 rfl).trans s5_7
 have s11_9 := (hO 11 rfl).trans s11_7
 clear hO hv hp hX hN_7 hD_7 hE_7 hbb5_7 hbb8_7 hbb33_7 hsx1_7 hsx32_0_4_7 hox32_0_4_7 s5_7 s11_7 s34_7 s35_7 s36_7 s37_7
 refine tail_put rfl rfl hN_9 hD_9 (by decide) (does_alloc zero_24 (fun b12 wd10 he lo_b12 hbb12_10 => fun a10 hN_10 hD_10 hv hO => ?_))
 have s12_10 := hv
 have hE_10 := hE_9.trans he
 have hbb5_10 := hbb5_9.ext' he
 have hbb8_10 := hbb8_9.ext' he
 have hbb33_10 := hbb33_9.ext' he
 have hsx1_10 := hsx1_9.ext' he
 have hsx32_0_4_10 := hsx32_0_4_9.ext' he
 have hsxs9_10 := hsxs9_9.ext' he
 have hox32_0_4_10 := hox32_0_4_9.ext' he
 have fr_b12 : w0.heap.size ≤ b12 := Nat.le_trans hE_9.size' lo_b12
 have ne_b5_b12 : b5 ≠ b12 := fun e => Nat.lt_irrefl _ (Nat.lt_of_lt_of_le hbb5_9.lt (e ▸ lo_b12))
 have ne_b8_b12 : b8 ≠ b12 := fun e => Nat.lt_irrefl _ (Nat.lt_of_lt_of_le hbb8_9.lt (e ▸ lo_b12))
 have ne_b33_b12 : b33 ≠ b12 := fun e => Nat.lt_irrefl _ (Nat.lt_of_lt_of_le hbb33_9.lt (e ▸ lo_b12))
 have nb_x1_b12 := SlT.old hsx1_9 lo_b12
 have nb_x32_0_4_b12 := SlT.old hsx32_0_4_9 lo_b12
 have nb_xs9_b12 := SlT.old hsxs9_9 lo_b12
 have nbo_x32_0_4_b12 : x32_0_4.ownBlock ≠ some b12 := fun e => Nat.lt_irrefl _ (Nat.lt_of_lt_of_le (OwnT.block_lt hox32_0_4_9 e).2 lo_b12)
 have s5_10 := (hO 5 rfl).trans s5_9
 have s11_10 := (hO 11 rfl).trans s11_9
 have s38_10 := (hO 38 rfl).trans s38_9
 clear hO hv hN_9 hD_9 hE_9 hbb5_9 hbb8_9 hbb33_9 hsx1_9 hsx32_0_4_9 hsxs9_9 hox32_0_4_9 s5_9 s11_9 s38_9
 refine tail_none rfl rfl (does_storeD (o := 0) (n := 4) (cs' := [w32 ((upS (n).toNat (i).toNat leaf l true).1).a, w32 ((upS (n).toNat (i).toNat leaf l true).1).b, w32 ((upS (n).toNat (i).toNat leaf l true).1).c, w32 ((upS (n).toNat (i).toNat leaf l true).1).d]) (V := Dg.val ((upS (n).toNat (i).toNat leaf l true).1)) s12_10 s38_10 hbb12_10 (Nat.le_of_ble_eq_true rfl) rfl siz_24 rfl rfl (fun wd11 hX hz hbb12_11 => ?_))
 have hE_11 := hE_10.since hX (fun k e => e ▸ fr_b12)
 have hbb5_11 := hbb5_10.ext hX ne_b5_b12
 have hbb8_11 := hbb8_10.ext hX ne_b8_b12
 have hbb33_11 := hbb33_10.ext hX ne_b33_b12
 have hsx1_11 := SlT.over hsx1_10 hX nb_x1_b12
 have hsx32_0_4_11 := SlT.over hsx32_0_4_10 hX nb_x32_0_4_b12
 have hsxs9_11 := SlT.over hsxs9_10 hX nb_xs9_b12
 have hox32_0_4_11 := OwnT.ext hox32_0_4_10 hX (fun k hk e => nbo_x32_0_4_b12 (e ▸ hk))
 clear hX hz hE_10 hbb5_10 hbb8_10 hbb33_10 hbb12_10 hsx1_10 hsx32_0_4_10 hsxs9_10 hox32_0_4_10
 refine tail_nil ?_
 refine wp_seq ?_
 refine region_lex [] [(39, Pr.ex (Value.pointer (some ⟨b33, 0, none⟩))), (40, Pr.ex (Value.bool (((upS (n).toNat (i).toNat leaf l true).2.2) && decide (((upS (n).toNat (i).toNat leaf l true).2.1).length = 0)))), (41, Pr.ex (Value.bool (((upS (n).toNat (i).toNat leaf l true).2.2) && decide (((upS (n).toNat (i).toNat leaf l true).2.1).length = 0)))), (42, Pr.ifb (((upS (n).toNat (i).toNat leaf l true).2.2) && decide (((upS (n).toNat (i).toNat leaf l true).2.1).length = 0)) (Pr.ex (Dg.val ((upS (n).toNat (i).toNat leaf l true).1)))), (43, Pr.ifb (((upS (n).toNat (i).toNat leaf l true).2.2) && decide (((upS (n).toNat (i).toNat leaf l true).2.1).length = 0)) (Pr.ex (Dg.val (r)))), (44, Pr.ifb (((upS (n).toNat (i).toNat leaf l true).2.2) && decide (((upS (n).toNat (i).toNat leaf l true).2.1).length = 0)) (Pr.ex (Value.bool (decide ((upS (n).toNat (i).toNat leaf l true).1 = r))))), (45, Pr.ex (Value.bool ((((upS (n).toNat (i).toNat leaf l true).2.2) && decide (((upS (n).toNat (i).toNat leaf l true).2.1).length = 0)) && (decide ((upS (n).toNat (i).toNat leaf l true).1 = r))))), (10, Pr.ex (Value.bool ((((upS (n).toNat (i).toNat leaf l true).2.2) && decide (((upS (n).toNat (i).toNat leaf l true).2.1).length = 0)) && (decide ((upS (n).toNat (i).toNat leaf l true).1 = r)))))] 8 hN_10 hD_10 (by kernel_rfl) (by kernel_rfl) ?_ ?_
 refine Asks.cons ?_ (Asks.cons ?_ (Asks.cons ?_ (Asks.cons ?_ (Asks.cons ?_ (Asks.cons ?_ (Asks.cons ?_ (Asks.cons ?_ (Asks.zero _))))))))
 exact Ask.plain rfl rfl fun aq wq hNq hO hR hT => does_move (V := Value.pointer (some ⟨b33, 0, none⟩)) ((hO 11 rfl).trans s11_10) ⟨Ext.refl _, rfl⟩
 exact Ask.plain rfl rfl fun aq wq hNq hO hR hT => does_ret (vs := #[Value.pointer (some ⟨b33, 0, none⟩)]) call_53 (args1 (hT 39 rfl rfl)) rfl ((done_ ((upS (n).toNat (i).toNat leaf l true).2.1) ((upS (n).toNat (i).toNat leaf l true).2.2) b33 pp8 wq ⟨_, (hbb33_11.ext' hR), (hsxs9_11.ext' hR)⟩).mono fun v w2 h => ⟨h.2, h.1⟩)
 exact Ask.plain rfl rfl fun aq wq hNq hO hR hT => does_move (V := Value.bool (((upS (n).toNat (i).toNat leaf l true).2.2) && decide (((upS (n).toNat (i).toNat leaf l true).2.1).length = 0))) (hT 40 rfl rfl) ⟨Ext.refl _, rfl⟩
 refine Ask.guarded (B := ((upS (n).toNat (i).toNat leaf l true).2.2) && decide (((upS (n).toNat (i).toNat leaf l true).2.1).length = 0)) (want := true) (t := 41) rfl rfl rfl rfl (by decide) (fun aq wq hO hR hT => hT 41 rfl rfl) (fun hG aq wq hNq hO hR hT => ?_) (fun hno _ => fun hc => absurd hc hno)
 exact does_loadD (o := 0) (n := 4) (mid := [w32 ((upS (n).toNat (i).toNat leaf l true).1).a, w32 ((upS (n).toNat (i).toNat leaf l true).1).b, w32 ((upS (n).toNat (i).toNat leaf l true).1).c, w32 ((upS (n).toNat (i).toNat leaf l true).1).d]) ((hO 12 rfl).trans s12_10) (hbb12_11.ext' hR) rfl rfl (Nat.le_of_ble_eq_true rfl) row_24 rfl ⟨Ext.refl _, fun _ => rfl⟩
 refine Ask.guarded (B := ((upS (n).toNat (i).toNat leaf l true).2.2) && decide (((upS (n).toNat (i).toNat leaf l true).2.1).length = 0)) (want := true) (t := 41) rfl rfl rfl rfl (by decide) (fun aq wq hO hR hT => hT 41 rfl rfl) (fun hG aq wq hNq hO hR hT => ?_) (fun hno _ => fun hc => absurd hc hno)
 exact does_loadD (o := 0) (n := 4) (mid := [w32 (r).a, w32 (r).b, w32 (r).c, w32 (r).d]) ((hO 5 rfl).trans s5_10) (hbb5_11.ext' hR) rfl rfl (Nat.le_of_ble_eq_true rfl) row_24 rfl ⟨Ext.refl _, fun _ => rfl⟩
 refine Ask.guarded (B := ((upS (n).toNat (i).toNat leaf l true).2.2) && decide (((upS (n).toNat (i).toNat leaf l true).2.1).length = 0)) (want := true) (t := 41) rfl rfl rfl rfl (by decide) (fun aq wq hO hR hT => hT 41 rfl rfl) (fun hG aq wq hNq hO hR hT => ?_) (fun hno _ => fun hc => absurd hc hno)
 exact does_eqT (a := (upS (n).toNat (i).toNat leaf l true).1) (b := r) eq_24 (hT 42 rfl rfl hG) (hT 43 rfl rfl hG) ⟨Ext.refl _, fun _ => rfl⟩
 exact Ask.plain rfl rfl fun aq wq hNq hO hR hT => does_and (B := ((upS (n).toNat (i).toNat leaf l true).2.2) && decide (((upS (n).toNat (i).toNat leaf l true).2.1).length = 0)) (X := decide ((upS (n).toNat (i).toNat leaf l true).1 = r)) (hT 41 rfl rfl) (fun hB => (hT 44 rfl rfl hB)) rfl ⟨Ext.refl _, rfl⟩
 exact Ask.plain rfl rfl fun aq wq hNq hO hR hT => does_assign (V := Value.bool ((((upS (n).toNat (i).toNat leaf l true).2.2) && decide (((upS (n).toNat (i).toNat leaf l true).2.1).length = 0)) && (decide ((upS (n).toNat (i).toNat leaf l true).1 = r)))) (hT 45 rfl rfl) ⟨Ext.refl _, rfl⟩
 intro a12 wd12 hN_12 hD_12 hO hR hA hU
 obtain ⟨_, _, _, _, _, _, _, t10, _⟩ := hA
 have hE_12 := hE_11.trans hR
 have hbb5_12 := hbb5_11.ext' hR
 have hbb8_12 := hbb8_11.ext' hR
 have hbb33_12 := hbb33_11.ext' hR
 have hbb12_12 := hbb12_11.ext' hR
 have hsx1_12 := hsx1_11.ext' hR
 have hsx32_0_4_12 := hsx32_0_4_11.ext' hR
 have hsxs9_12 := hsxs9_11.ext' hR
 have hox32_0_4_12 := hox32_0_4_11.ext' hR
 have s10_12 : get a12 10 = Value.bool ((((upS (n).toNat (i).toNat leaf l true).2.2) && decide (((upS (n).toNat (i).toNat leaf l true).2.1).length = 0)) && (decide ((upS (n).toNat (i).toNat leaf l true).1 = r))) := t10
 clear hE_11 hN_10 hD_10 s5_10 s11_10 s12_10 s38_10 hbb5_11 hbb8_11 hbb33_11 hbb12_11 hsx1_11 hsx32_0_4_11 hsxs9_11 hox32_0_4_11
 refine tail_nil ?_
 refine wp_ret ?_
 refine res_one (V := Value.bool ((((upS (n).toNat (i).toNat leaf l true).2.2) && decide (((upS (n).toNat (i).toNat leaf l true).2.1).length = 0)) && (decide ((upS (n).toNat (i).toNat leaf l true).1 = r)))) rfl hD_12 s10_12 ?_
 exact ⟨by show Value.bool _ = Value.bool _; rw [check_yesS hb], hE_12⟩

end Go.Proofs.YtaeohnkfmachfabDoor
